-- Written by a program of this session (wip/tools/pp.py) out of what the kit's print.py prints over this seat's translation. Not trusted: Lean checks it.
import Derived.Test.YtcohcbfodmoblaaQPkx0
import Derived.Test.YtcohcbfodmoblaaQPkx14
import Derived.Test.YtcohcbfodmoblaaQPkx18
import Derived.Test.YtcohcbfodmoblaaQPkx20
import Derived.Test.YtcohcbfodmoblaaQPkx21
namespace Go.Proofs.Ytcohcbfodmoblaa.QPk
open Go.RowKit Go.Proofs.YtcohcbfodmoblaaW.PrintWords Go.Proofs.YtcohcbfodmoblaaW.PrintLast Go.Proofs.YtcohcbfodmoblaaW.PrintMore
attribute [local go_sem] max2_int min2_int max_two min_two max_three min_three max_four min_four   -- for this text's walks alone
set_option linter.unusedVariables false
set_option linter.unusedSimpArgs false

/-! ### redoubtlaw15_PickWider: function 5 -/
mutual
def redoubtlaw15_PickWider.j0 : Nat → Int → Int → Bool → Bool → Bool → Bool → ByteArray → ByteArray → ByteArray → ByteArray → Int → Int → Int → Int → Int → ByteArray → ByteArray → Int → Int → Int → Option (Bool)
  | 0, _, _, _, _, _, _, _, _, _, _, _, _, _, _, _, _, _, _, _, _ => none
  | k + 1, x2, x3, x4, x5, x6, x41, x201000, x201001, x201002, x201003, x201004, x201005, x201006, x201007, x201008, x202000, x202001, x202002, x202003, x202004 => if x41 = true then ((redoubtlaw15_awake.f k).bind fun t204 => (some t204)) else (if x4 = true then (redoubtlaw15_PickWider.j1 k x5 x6 x202000 x202001 x202002 x202003 x202004 (⟨#[]⟩ : ByteArray) (⟨#[]⟩ : ByteArray) x201002 x201003 x201004 (mx (wrap64 (x201005 - x2)) 0) (mn (wrap64 (x201006 + x3)) 65535) (mx (wrap64 (x201007 - x3)) 0) (mn (wrap64 (x201008 + x2)) 65535)) else (redoubtlaw15_PickWider.j1 k x5 x6 x202000 x202001 x202002 x202003 x202004 x201000 x201001 x201002 x201003 x201004 (mx (wrap64 (x201005 - x2)) 0) (mn (wrap64 (x201006 + x3)) 65535) (mx (wrap64 (x201007 - x3)) 0) (mn (wrap64 (x201008 + x2)) 65535)))
def redoubtlaw15_PickWider.j1 : Nat → Bool → Bool → ByteArray → ByteArray → Int → Int → Int → ByteArray → ByteArray → ByteArray → ByteArray → Int → Int → Int → Int → Int → Option (Bool)
  | 0, _, _, _, _, _, _, _, _, _, _, _, _, _, _, _, _ => none
  | k + 1, x5, x6, x202000, x202001, x202002, x202003, x202004, x206000, x206001, x206002, x206003, x206004, x206005, x206006, x206007, x206008 => if x5 = true then (redoubtlaw15_PickWider.j2 k x6 x202000 x202001 x202002 x202003 x202004 x206000 x206001 (⟨#[]⟩ : ByteArray) (⟨#[]⟩ : ByteArray) x206004 x206005 x206006 x206007 x206008) else (redoubtlaw15_PickWider.j2 k x6 x202000 x202001 x202002 x202003 x202004 x206000 x206001 x206002 x206003 x206004 x206005 x206006 x206007 x206008)
def redoubtlaw15_PickWider.j2 : Nat → Bool → ByteArray → ByteArray → Int → Int → Int → ByteArray → ByteArray → ByteArray → ByteArray → Int → Int → Int → Int → Int → Option (Bool)
  | 0, _, _, _, _, _, _, _, _, _, _, _, _, _, _, _ => none
  | k + 1, x6, x202000, x202001, x202002, x202003, x202004, x206000, x206001, x206002, x206003, x206004, x206005, x206006, x206007, x206008 => if x6 = true then ((redoubtlaw15_awake.f k).bind fun t206 => (if t206 = true then ((pick_Matches.f k x206000 x206001 x206002 x206003 (-1) x206005 x206006 x206007 x206008 x202000 x202001 x202002 x202003 x202004).bind fun t207 => (if t207 = true then ((pick_Check.f k x206000 x206001 x206002 x206003 (-1) x206005 x206006 x206007 x206008).bind fun t208 => (some (t208 == 0))) else (some false))) else (some false))) else ((redoubtlaw15_awake.f k).bind fun t209 => (if t209 = true then ((pick_Matches.f k x206000 x206001 x206002 x206003 x206004 x206005 x206006 x206007 x206008 x202000 x202001 x202002 x202003 x202004).bind fun t210 => (if t210 = true then ((pick_Check.f k x206000 x206001 x206002 x206003 x206004 x206005 x206006 x206007 x206008).bind fun t211 => (some (t211 == 0))) else (some false))) else (some false)))
end
def redoubtlaw15_PickWider.f (k : Nat) (a0_0 : ByteArray) (a0_1 : ByteArray) (a0_2 : ByteArray) (a0_3 : ByteArray) (a0_4 : Int) (a0_5 : Int) (a0_6 : Int) (a0_7 : Int) (a0_8 : Int) (a1_0 : ByteArray) (a1_1 : ByteArray) (a1_2 : Int) (a1_3 : Int) (a1_4 : Int) (a2 : Int) (a3 : Int) (a4 : Bool) (a5 : Bool) (a6 : Bool) : Option (Bool) := (redoubtlaw15_few.f a0_0 a0_1 a0_2 a0_3 a0_4 a0_5 a0_6 a0_7 a0_8 a1_0 a1_1 a1_2 a1_3 a1_4).bind fun t202 => (if t202 = true then (if a2 < 0 then (redoubtlaw15_PickWider.j0 k a2 a3 a4 a5 a6 true a0_0 a0_1 a0_2 a0_3 a0_4 a0_5 a0_6 a0_7 a0_8 a1_0 a1_1 a1_2 a1_3 a1_4) else (if a2 > 65535 then (redoubtlaw15_PickWider.j0 k a2 a3 a4 a5 a6 true a0_0 a0_1 a0_2 a0_3 a0_4 a0_5 a0_6 a0_7 a0_8 a1_0 a1_1 a1_2 a1_3 a1_4) else (if a3 < 0 then (redoubtlaw15_PickWider.j0 k a2 a3 a4 a5 a6 true a0_0 a0_1 a0_2 a0_3 a0_4 a0_5 a0_6 a0_7 a0_8 a1_0 a1_1 a1_2 a1_3 a1_4) else (if a3 > 65535 then (redoubtlaw15_PickWider.j0 k a2 a3 a4 a5 a6 true a0_0 a0_1 a0_2 a0_3 a0_4 a0_5 a0_6 a0_7 a0_8 a1_0 a1_1 a1_2 a1_3 a1_4) else ((pick_Matches.f k a0_0 a0_1 a0_2 a0_3 a0_4 a0_5 a0_6 a0_7 a0_8 a1_0 a1_1 a1_2 a1_3 a1_4).bind fun t203 => (redoubtlaw15_PickWider.j0 k a2 a3 a4 a5 a6 (!t203) a0_0 a0_1 a0_2 a0_3 a0_4 a0_5 a0_6 a0_7 a0_8 a1_0 a1_1 a1_2 a1_3 a1_4)))))) else (redoubtlaw15_PickWider.j0 k a2 a3 a4 a5 a6 true a0_0 a0_1 a0_2 a0_3 a0_4 a0_5 a0_6 a0_7 a0_8 a1_0 a1_1 a1_2 a1_3 a1_4))
theorem redoubtlaw15_PickWider.mono_l : ∀ k, (∀ y0 y1 y2 y3 y4 y5 y6 y7 y8 y9 y10 y11 y12 y13 y14 y15 y16 y17 y18 y19, LeO (redoubtlaw15_PickWider.j0 k y0 y1 y2 y3 y4 y5 y6 y7 y8 y9 y10 y11 y12 y13 y14 y15 y16 y17 y18 y19) (redoubtlaw15_PickWider.j0 (k + 1) y0 y1 y2 y3 y4 y5 y6 y7 y8 y9 y10 y11 y12 y13 y14 y15 y16 y17 y18 y19)) ∧ (∀ y0 y1 y2 y3 y4 y5 y6 y7 y8 y9 y10 y11 y12 y13 y14 y15, LeO (redoubtlaw15_PickWider.j1 k y0 y1 y2 y3 y4 y5 y6 y7 y8 y9 y10 y11 y12 y13 y14 y15) (redoubtlaw15_PickWider.j1 (k + 1) y0 y1 y2 y3 y4 y5 y6 y7 y8 y9 y10 y11 y12 y13 y14 y15)) ∧ (∀ y0 y1 y2 y3 y4 y5 y6 y7 y8 y9 y10 y11 y12 y13 y14, LeO (redoubtlaw15_PickWider.j2 k y0 y1 y2 y3 y4 y5 y6 y7 y8 y9 y10 y11 y12 y13 y14) (redoubtlaw15_PickWider.j2 (k + 1) y0 y1 y2 y3 y4 y5 y6 y7 y8 y9 y10 y11 y12 y13 y14))
  | 0 => ⟨fun _ _ _ _ _ _ _ _ _ _ _ _ _ _ _ _ _ _ _ _ r h => by simp [redoubtlaw15_PickWider.j0] at h, fun _ _ _ _ _ _ _ _ _ _ _ _ _ _ _ _ r h => by simp [redoubtlaw15_PickWider.j1] at h, fun _ _ _ _ _ _ _ _ _ _ _ _ _ _ _ r h => by simp [redoubtlaw15_PickWider.j2] at h⟩
  | k + 1 => by
    obtain ⟨ih0, ih1, ih2⟩ := redoubtlaw15_PickWider.mono_l k
    refine ⟨?_, ?_, ?_⟩
    · intro y0 y1 y2 y3 y4 y5 y6 y7 y8 y9 y10 y11 y12 y13 y14 y15 y16 y17 y18 y19
      unfold redoubtlaw15_PickWider.j0
      repeat' first
      | (with_reducible exact ih0 _ _ _ _ _ _ _ _ _ _ _ _ _ _ _ _ _ _ _ _)
      | (with_reducible exact ih1 _ _ _ _ _ _ _ _ _ _ _ _ _ _ _ _)
      | (with_reducible exact ih2 _ _ _ _ _ _ _ _ _ _ _ _ _ _ _)
      | (with_reducible exact pick_Check.mono _ _ _ _ _ _ _ _ _ _)
      | (with_reducible exact pick_Matches.mono _ _ _ _ _ _ _ _ _ _ _ _ _ _ _)
      | (with_reducible exact redoubtlaw15_awake.mono _)
      | (with_reducible exact LeO.refl _)
      | (with_reducible exact LeO.none _)
      | (with_reducible refine LeO.ite ?_ ?_)
      | (with_reducible refine LeO.bind ?_ (fun _ => ?_))
      | exact ih0 _ _ _ _ _ _ _ _ _ _ _ _ _ _ _ _ _ _ _ _
      | exact ih1 _ _ _ _ _ _ _ _ _ _ _ _ _ _ _ _
      | exact ih2 _ _ _ _ _ _ _ _ _ _ _ _ _ _ _
      | exact pick_Check.mono _ _ _ _ _ _ _ _ _ _
      | exact pick_Matches.mono _ _ _ _ _ _ _ _ _ _ _ _ _ _ _
      | exact redoubtlaw15_awake.mono _
      | exact LeO.none _
      | refine LeO.ite ?_ ?_
      | refine LeO.bind ?_ (fun _ => ?_)
    · intro y0 y1 y2 y3 y4 y5 y6 y7 y8 y9 y10 y11 y12 y13 y14 y15
      unfold redoubtlaw15_PickWider.j1
      repeat' first
      | (with_reducible exact ih0 _ _ _ _ _ _ _ _ _ _ _ _ _ _ _ _ _ _ _ _)
      | (with_reducible exact ih1 _ _ _ _ _ _ _ _ _ _ _ _ _ _ _ _)
      | (with_reducible exact ih2 _ _ _ _ _ _ _ _ _ _ _ _ _ _ _)
      | (with_reducible exact pick_Check.mono _ _ _ _ _ _ _ _ _ _)
      | (with_reducible exact pick_Matches.mono _ _ _ _ _ _ _ _ _ _ _ _ _ _ _)
      | (with_reducible exact redoubtlaw15_awake.mono _)
      | (with_reducible exact LeO.refl _)
      | (with_reducible exact LeO.none _)
      | (with_reducible refine LeO.ite ?_ ?_)
      | (with_reducible refine LeO.bind ?_ (fun _ => ?_))
      | exact ih0 _ _ _ _ _ _ _ _ _ _ _ _ _ _ _ _ _ _ _ _
      | exact ih1 _ _ _ _ _ _ _ _ _ _ _ _ _ _ _ _
      | exact ih2 _ _ _ _ _ _ _ _ _ _ _ _ _ _ _
      | exact pick_Check.mono _ _ _ _ _ _ _ _ _ _
      | exact pick_Matches.mono _ _ _ _ _ _ _ _ _ _ _ _ _ _ _
      | exact redoubtlaw15_awake.mono _
      | exact LeO.none _
      | refine LeO.ite ?_ ?_
      | refine LeO.bind ?_ (fun _ => ?_)
    · intro y0 y1 y2 y3 y4 y5 y6 y7 y8 y9 y10 y11 y12 y13 y14
      unfold redoubtlaw15_PickWider.j2
      repeat' first
      | (with_reducible exact ih0 _ _ _ _ _ _ _ _ _ _ _ _ _ _ _ _ _ _ _ _)
      | (with_reducible exact ih1 _ _ _ _ _ _ _ _ _ _ _ _ _ _ _ _)
      | (with_reducible exact ih2 _ _ _ _ _ _ _ _ _ _ _ _ _ _ _)
      | (with_reducible exact pick_Check.mono _ _ _ _ _ _ _ _ _ _)
      | (with_reducible exact pick_Matches.mono _ _ _ _ _ _ _ _ _ _ _ _ _ _ _)
      | (with_reducible exact redoubtlaw15_awake.mono _)
      | (with_reducible exact LeO.refl _)
      | (with_reducible exact LeO.none _)
      | (with_reducible refine LeO.ite ?_ ?_)
      | (with_reducible refine LeO.bind ?_ (fun _ => ?_))
      | exact ih0 _ _ _ _ _ _ _ _ _ _ _ _ _ _ _ _ _ _ _ _
      | exact ih1 _ _ _ _ _ _ _ _ _ _ _ _ _ _ _ _
      | exact ih2 _ _ _ _ _ _ _ _ _ _ _ _ _ _ _
      | exact pick_Check.mono _ _ _ _ _ _ _ _ _ _
      | exact pick_Matches.mono _ _ _ _ _ _ _ _ _ _ _ _ _ _ _
      | exact redoubtlaw15_awake.mono _
      | exact LeO.none _
      | refine LeO.ite ?_ ?_
      | refine LeO.bind ?_ (fun _ => ?_)
theorem redoubtlaw15_PickWider.mono : ∀ a0 a1 a2 a3 a4 a5 a6 a7 a8 a9 a10 a11 a12 a13 a14 a15 a16 a17 a18 k, LeO (redoubtlaw15_PickWider.f k a0 a1 a2 a3 a4 a5 a6 a7 a8 a9 a10 a11 a12 a13 a14 a15 a16 a17 a18) (redoubtlaw15_PickWider.f (k + 1) a0 a1 a2 a3 a4 a5 a6 a7 a8 a9 a10 a11 a12 a13 a14 a15 a16 a17 a18) := by
  intro a0 a1 a2 a3 a4 a5 a6 a7 a8 a9 a10 a11 a12 a13 a14 a15 a16 a17 a18 k
  obtain ⟨ih0, ih1, ih2⟩ := redoubtlaw15_PickWider.mono_l k
  unfold redoubtlaw15_PickWider.f
  repeat' first
      | (with_reducible exact ih0 _ _ _ _ _ _ _ _ _ _ _ _ _ _ _ _ _ _ _ _)
      | (with_reducible exact ih1 _ _ _ _ _ _ _ _ _ _ _ _ _ _ _ _)
      | (with_reducible exact ih2 _ _ _ _ _ _ _ _ _ _ _ _ _ _ _)
      | (with_reducible exact pick_Check.mono _ _ _ _ _ _ _ _ _ _)
      | (with_reducible exact pick_Matches.mono _ _ _ _ _ _ _ _ _ _ _ _ _ _ _)
      | (with_reducible exact redoubtlaw15_awake.mono _)
      | (with_reducible exact LeO.refl _)
      | (with_reducible exact LeO.none _)
      | (with_reducible refine LeO.ite ?_ ?_)
      | (with_reducible refine LeO.bind ?_ (fun _ => ?_))
      | exact ih0 _ _ _ _ _ _ _ _ _ _ _ _ _ _ _ _ _ _ _ _
      | exact ih1 _ _ _ _ _ _ _ _ _ _ _ _ _ _ _ _
      | exact ih2 _ _ _ _ _ _ _ _ _ _ _ _ _ _ _
      | exact pick_Check.mono _ _ _ _ _ _ _ _ _ _
      | exact pick_Matches.mono _ _ _ _ _ _ _ _ _ _ _ _ _ _ _
      | exact redoubtlaw15_awake.mono _
      | exact LeO.none _
      | refine LeO.ite ?_ ?_
      | refine LeO.bind ?_ (fun _ => ?_)
set_option maxHeartbeats 8000000 in
set_option maxRecDepth 100000 in
theorem redoubtlaw15_PickWider.calls (k : Nat) (a0_0 : ByteArray) (a0_1 : ByteArray) (a0_2 : ByteArray) (a0_3 : ByteArray) (a0_4 : Int) (a0_5 : Int) (a0_6 : Int) (a0_7 : Int) (a0_8 : Int) (a1_0 : ByteArray) (a1_1 : ByteArray) (a1_2 : Int) (a1_3 : Int) (a1_4 : Int) (a2 : Int) (a3 : Int) (a4 : Bool) (a5 : Bool) (a6 : Bool) (r : Bool) (w : World) (h : redoubtlaw15_PickWider.f k a0_0 a0_1 a0_2 a0_3 a0_4 a0_5 a0_6 a0_7 a0_8 a1_0 a1_1 a1_2 a1_3 a1_4 a2 a3 a4 a5 a6 = some r) (hr_ : r = true) :
    Calls Try.prog 5 #[.agg #[.string a0_0, .string a0_1, .string a0_2, .string a0_3, .int .i64 a0_4, .int .i64 a0_5, .int .i64 a0_6, .int .i64 a0_7, .int .i64 a0_8], .agg #[.string a1_0, .string a1_1, .int .i64 a1_2, .int .i64 a1_3, .int .i64 a1_4], .int .i64 a2, .int .i64 a3, .bool a4, .bool a5, .bool a6] w fun e w' => e = .returned (.bool r) ∧ Below w.heap.size w w' := by
  have HRT := Aside0.mk hr_
  clear hr_
  have hu37 := Try.underlying37
  have hu24 := Try.underlying24
  have hu35 := Try.underlying35
  have hu33 := Try.underlying33
  have HB := Aside0.mk (Below.refl w.heap.size w)
  have H : ((redoubtlaw15_few.f a0_0 a0_1 a0_2 a0_3 a0_4 a0_5 a0_6 a0_7 a0_8 a1_0 a1_1 a1_2 a1_3 a1_4).bind fun t202 => (if t202 = true then (if a2 < 0 then (redoubtlaw15_PickWider.j0 k a2 a3 a4 a5 a6 true a0_0 a0_1 a0_2 a0_3 a0_4 a0_5 a0_6 a0_7 a0_8 a1_0 a1_1 a1_2 a1_3 a1_4) else (if a2 > 65535 then (redoubtlaw15_PickWider.j0 k a2 a3 a4 a5 a6 true a0_0 a0_1 a0_2 a0_3 a0_4 a0_5 a0_6 a0_7 a0_8 a1_0 a1_1 a1_2 a1_3 a1_4) else (if a3 < 0 then (redoubtlaw15_PickWider.j0 k a2 a3 a4 a5 a6 true a0_0 a0_1 a0_2 a0_3 a0_4 a0_5 a0_6 a0_7 a0_8 a1_0 a1_1 a1_2 a1_3 a1_4) else (if a3 > 65535 then (redoubtlaw15_PickWider.j0 k a2 a3 a4 a5 a6 true a0_0 a0_1 a0_2 a0_3 a0_4 a0_5 a0_6 a0_7 a0_8 a1_0 a1_1 a1_2 a1_3 a1_4) else ((pick_Matches.f k a0_0 a0_1 a0_2 a0_3 a0_4 a0_5 a0_6 a0_7 a0_8 a1_0 a1_1 a1_2 a1_3 a1_4).bind fun t203 => (redoubtlaw15_PickWider.j0 k a2 a3 a4 a5 a6 (!t203) a0_0 a0_1 a0_2 a0_3 a0_4 a0_5 a0_6 a0_7 a0_8 a1_0 a1_1 a1_2 a1_3 a1_4)))))) else (redoubtlaw15_PickWider.j0 k a2 a3 a4 a5 a6 true a0_0 a0_1 a0_2 a0_3 a0_4 a0_5 a0_6 a0_7 a0_8 a1_0 a1_1 a1_2 a1_3 a1_4))) = some r := h
  clear h
  have HC8 := Aside0.mk H
  clear H
  go_enter Try.func5, Try.ntmps5
  go_upto_region 1 with (first | ((with_reducible refine gate_dst (N := 7) rfl ?_); refine box_event ?hg (N := 7) ?hd (cs := #[.string a0_0, .string a0_1, .string a0_2, .string a0_3, .int .i64 a0_4, .int .i64 a0_5, .int .i64 a0_6, .int .i64 a0_7, .int .i64 a0_8]) (t := 37) ?hr ?_; (case hd => rfl); (case hg => rfl); (case hr => first | (go_simp; done) | (go_simp; rfl)); intro gb200 hg w9 hbox hb; have n0_ := Aside0.mk (below_step (by repeat (first | (with_reducible first | exact HB.out | apply below_alloc | apply pw_below_drewN | apply below_drew1) | exact HB.out)) hb); have n1_ := Aside0.mk (hbox); have n2_ := Aside0.mk ((by rw [hg]; exact (below_size (by repeat (first | (with_reducible first | exact HB.out | apply below_alloc | apply pw_below_drewN | apply below_drew1) | exact HB.out))) : w.heap.size ≤ gb200)); have n3_ := Aside0.mk ((by rw [hg]; exact (below_size (by repeat (first | (with_reducible first | exact HB.out | apply below_alloc | apply pw_below_drewN | apply below_drew1) | exact HB.out))) : w.heap.size ≤ gb200)); clear HB; have HB := n0_; have BK200 := n1_; have GW200 := n2_; have GE200 := n3_; clear n0_ n1_ n2_ n3_; clear hb hbox hg) | ((with_reducible refine gate_dst (N := 8) rfl ?_); refine box_event ?hg (N := 8) ?hd (cs := #[.string a1_0, .string a1_1, .int .i64 a1_2, .int .i64 a1_3, .int .i64 a1_4]) (t := 24) ?hr ?_; (case hd => rfl); (case hg => rfl); (case hr => first | (go_simp; done) | (go_simp; rfl)); intro gb201 hg w10 hbox hb; have n0_ := Aside0.mk (blk_below (g := gb200) (o := .cells #[.string a0_0, .string a0_1, .string a0_2, .string a0_3, .int .i64 a0_4, .int .i64 a0_5, .int .i64 a0_6, .int .i64 a0_7, .int .i64 a0_8] 37 (0, 0)) (by (with_reducible repeat (first | refine blk_drewN ?_ _ | refine blk_drew ?_ | refine blk_alloc ?_ _)); exact BK200.out) hb); have n1_ := Aside0.mk (below_step (by repeat (first | (with_reducible first | exact HB.out | apply below_alloc | apply pw_below_drewN | apply below_drew1 | refine below_set ?_ GE200.out) | exact HB.out)) hb); have n2_ := Aside0.mk (hbox); have n3_ := Aside0.mk ((by rw [hg]; exact (below_size (by repeat (first | (with_reducible first | exact HB.out | apply below_alloc | apply pw_below_drewN | apply below_drew1 | refine below_set ?_ GE200.out) | exact HB.out))) : w.heap.size ≤ gb201)); have n4_ := Aside0.mk ((by rw [hg]; exact (below_size (by repeat (first | (with_reducible first | exact HB.out | apply below_alloc | apply pw_below_drewN | apply below_drew1 | refine below_set ?_ GE200.out) | exact HB.out))) : w.heap.size ≤ gb201)); have n5_ := Aside0.mk ((by rw [hg]; exact Nat.ne_of_lt (blk_lt (g := gb200) (o := .cells #[.string a0_0, .string a0_1, .string a0_2, .string a0_3, .int .i64 a0_4, .int .i64 a0_5, .int .i64 a0_6, .int .i64 a0_7, .int .i64 a0_8] 37 (0, 0)) (by (with_reducible repeat (first | refine blk_drewN ?_ _ | refine blk_drew ?_ | refine blk_alloc ?_ _)); exact BK200.out)) : gb200 ≠ gb201)); have n6_ := Aside0.mk ((by rw [hg]; exact Nat.ne_of_gt (blk_lt (g := gb200) (o := .cells #[.string a0_0, .string a0_1, .string a0_2, .string a0_3, .int .i64 a0_4, .int .i64 a0_5, .int .i64 a0_6, .int .i64 a0_7, .int .i64 a0_8] 37 (0, 0)) (by (with_reducible repeat (first | refine blk_drewN ?_ _ | refine blk_drew ?_ | refine blk_alloc ?_ _)); exact BK200.out)) : gb201 ≠ gb200)); clear BK200; clear HB; have BK200 := n0_; have HB := n1_; have BK201 := n2_; have GW201 := n3_; have GE201 := n4_; have NB200_201 := n5_; have NB201_200 := n6_; clear n0_ n1_ n2_ n3_ n4_ n5_ n6_; clear hb hbox hg))
  (try simp only [Act.put, List.setIfInBounds_toArray, List.set_cons_zero, List.set_cons_succ])
  go_cut [41] (fun v41 wc => ∃ (kq : Nat) (x41_7 : Bool), v41 = .bool x41_7 ∧ Aside0 (redoubtlaw15_PickWider.j0 kq a2 a3 a4 a5 a6 x41_7 a0_0 a0_1 a0_2 a0_3 a0_4 a0_5 a0_6 a0_7 a0_8 a1_0 a1_1 a1_2 a1_3 a1_4 = some r) ∧ Aside0 (kq ≤ k) ∧ Aside0 (wc.heap[gb200]? = some (.cells #[.string a0_0, .string a0_1, .string a0_2, .string a0_3, .int .i64 a0_4, .int .i64 a0_5, .int .i64 a0_6, .int .i64 a0_7, .int .i64 a0_8] 37 (0, 0))) ∧ Aside0 (wc.heap[gb201]? = some (.cells #[.string a1_0, .string a1_1, .int .i64 a1_2, .int .i64 a1_3, .int .i64 a1_4] 24 (0, 0))) ∧ Aside0 (Below w.heap.size w wc))
  case first =>
    have H := HC8.out
    clear HC8
    replace H := Option.bind_eq_some_iff.mp H
    obtain ⟨t202, A110, H⟩ := H
    replace H : (if t202 = true then (if a2 < 0 then (redoubtlaw15_PickWider.j0 k a2 a3 a4 a5 a6 true a0_0 a0_1 a0_2 a0_3 a0_4 a0_5 a0_6 a0_7 a0_8 a1_0 a1_1 a1_2 a1_3 a1_4) else (if a2 > 65535 then (redoubtlaw15_PickWider.j0 k a2 a3 a4 a5 a6 true a0_0 a0_1 a0_2 a0_3 a0_4 a0_5 a0_6 a0_7 a0_8 a1_0 a1_1 a1_2 a1_3 a1_4) else (if a3 < 0 then (redoubtlaw15_PickWider.j0 k a2 a3 a4 a5 a6 true a0_0 a0_1 a0_2 a0_3 a0_4 a0_5 a0_6 a0_7 a0_8 a1_0 a1_1 a1_2 a1_3 a1_4) else (if a3 > 65535 then (redoubtlaw15_PickWider.j0 k a2 a3 a4 a5 a6 true a0_0 a0_1 a0_2 a0_3 a0_4 a0_5 a0_6 a0_7 a0_8 a1_0 a1_1 a1_2 a1_3 a1_4) else ((pick_Matches.f k a0_0 a0_1 a0_2 a0_3 a0_4 a0_5 a0_6 a0_7 a0_8 a1_0 a1_1 a1_2 a1_3 a1_4).bind fun t203 => (redoubtlaw15_PickWider.j0 k a2 a3 a4 a5 a6 (!t203) a0_0 a0_1 a0_2 a0_3 a0_4 a0_5 a0_6 a0_7 a0_8 a1_0 a1_1 a1_2 a1_3 a1_4)))))) else (redoubtlaw15_PickWider.j0 k a2 a3 a4 a5 a6 true a0_0 a0_1 a0_2 a0_3 a0_4 a0_5 a0_6 a0_7 a0_8 a1_0 a1_1 a1_2 a1_3 a1_4)) = some r := H
    have A11 := Aside0.mk A110
    clear A110
    by_cases c12 : t202 = true
    · subst c12
      have H1 : (if a2 < 0 then (redoubtlaw15_PickWider.j0 k a2 a3 a4 a5 a6 true a0_0 a0_1 a0_2 a0_3 a0_4 a0_5 a0_6 a0_7 a0_8 a1_0 a1_1 a1_2 a1_3 a1_4) else (if a2 > 65535 then (redoubtlaw15_PickWider.j0 k a2 a3 a4 a5 a6 true a0_0 a0_1 a0_2 a0_3 a0_4 a0_5 a0_6 a0_7 a0_8 a1_0 a1_1 a1_2 a1_3 a1_4) else (if a3 < 0 then (redoubtlaw15_PickWider.j0 k a2 a3 a4 a5 a6 true a0_0 a0_1 a0_2 a0_3 a0_4 a0_5 a0_6 a0_7 a0_8 a1_0 a1_1 a1_2 a1_3 a1_4) else (if a3 > 65535 then (redoubtlaw15_PickWider.j0 k a2 a3 a4 a5 a6 true a0_0 a0_1 a0_2 a0_3 a0_4 a0_5 a0_6 a0_7 a0_8 a1_0 a1_1 a1_2 a1_3 a1_4) else ((pick_Matches.f k a0_0 a0_1 a0_2 a0_3 a0_4 a0_5 a0_6 a0_7 a0_8 a1_0 a1_1 a1_2 a1_3 a1_4).bind fun t203 => (redoubtlaw15_PickWider.j0 k a2 a3 a4 a5 a6 (!t203) a0_0 a0_1 a0_2 a0_3 a0_4 a0_5 a0_6 a0_7 a0_8 a1_0 a1_1 a1_2 a1_3 a1_4)))))) = some r := by rw [if_pos rfl] at H; exact H
      clear H
      have H := H1
      clear H1
      by_cases c13 : a2 < 0
      · rw [if_pos c13] at H
        have c13b0 : decide (a2 < 0) = true := decide_eq_true c13
        clear c13
        (first | rw [c13b0] | (simp only [i64_w, i32_w]; rw [c13b0]) | skip)
        have H' := Aside0.mk H
        clear H
        have hnb14 := NB200_201.out
        have hnc14 := NB201_200.out
        have hcz15_0 : w10.cell? ⟨gb200, 0, none⟩ = some (.string a0_0) := (blk_cell BK200.out 0).trans rfl
        have hcz15_1 : w10.cell? ⟨gb200, 1, none⟩ = some (.string a0_1) := (blk_cell BK200.out 1).trans rfl
        have hcz15_2 : w10.cell? ⟨gb200, 2, none⟩ = some (.string a0_2) := (blk_cell BK200.out 2).trans rfl
        have hcz15_3 : w10.cell? ⟨gb200, 3, none⟩ = some (.string a0_3) := (blk_cell BK200.out 3).trans rfl
        have hcz15_4 : w10.cell? ⟨gb200, 4, none⟩ = some (.int .i64 a0_4) := (blk_cell BK200.out 4).trans rfl
        have hcz15_5 : w10.cell? ⟨gb200, 5, none⟩ = some (.int .i64 a0_5) := (blk_cell BK200.out 5).trans rfl
        have hcz15_6 : w10.cell? ⟨gb200, 6, none⟩ = some (.int .i64 a0_6) := (blk_cell BK200.out 6).trans rfl
        have hcz15_7 : w10.cell? ⟨gb200, 7, none⟩ = some (.int .i64 a0_7) := (blk_cell BK200.out 7).trans rfl
        have hcz15_8 : w10.cell? ⟨gb200, 8, none⟩ = some (.int .i64 a0_8) := (blk_cell BK200.out 8).trans rfl
        have hfz15_0 := blk_frozen BK200.out 0
        have hfz15_1 := blk_frozen BK200.out 1
        have hfz15_2 := blk_frozen BK200.out 2
        have hfz15_3 := blk_frozen BK200.out 3
        have hfz15_4 := blk_frozen BK200.out 4
        have hfz15_5 := blk_frozen BK200.out 5
        have hfz15_6 := blk_frozen BK200.out 6
        have hfz15_7 := blk_frozen BK200.out 7
        have hfz15_8 := blk_frozen BK200.out 8
        have hcz16_0 : w10.cell? ⟨gb201, 0, none⟩ = some (.string a1_0) := (blk_cell BK201.out 0).trans rfl
        have hcz16_1 : w10.cell? ⟨gb201, 1, none⟩ = some (.string a1_1) := (blk_cell BK201.out 1).trans rfl
        have hcz16_2 : w10.cell? ⟨gb201, 2, none⟩ = some (.int .i64 a1_2) := (blk_cell BK201.out 2).trans rfl
        have hcz16_3 : w10.cell? ⟨gb201, 3, none⟩ = some (.int .i64 a1_3) := (blk_cell BK201.out 3).trans rfl
        have hcz16_4 : w10.cell? ⟨gb201, 4, none⟩ = some (.int .i64 a1_4) := (blk_cell BK201.out 4).trans rfl
        have hfz16_0 := blk_frozen BK201.out 0
        have hfz16_1 := blk_frozen BK201.out 1
        have hfz16_2 := blk_frozen BK201.out 2
        have hfz16_3 := blk_frozen BK201.out 3
        have hfz16_4 := blk_frozen BK201.out 4
        go_wp2_with (first | ((with_reducible refine gate_callee (f := 13) rfl ?_); refine goesL_ (some 18) rfl rfl Try.func13 (by kernel_rfl) rfl #[.agg #[.string a0_0, .string a0_1, .string a0_2, .string a0_3, .int .i64 a0_4, .int .i64 a0_5, .int .i64 a0_6, .int .i64 a0_7, .int .i64 a0_8], .agg #[.string a1_0, .string a1_1, .int .i64 a1_2, .int .i64 a1_3, .int .i64 a1_4]] rfl (by (try simp only [List.map_toArray, List.map_cons, List.map_nil]); first | done | rfl | (simp only [List.length_drop, List.length_take]; rfl)) ?_; (with_reducible refine (redoubtlaw15_few.calls a0_0 a0_1 a0_2 a0_3 a0_4 a0_5 a0_6 a0_7 a0_8 a1_0 a1_1 a1_2 a1_3 a1_4 true _ A11.out).mono ?_); rintro e w17 ⟨rfl, hb⟩; refine ⟨_, rfl, ?_⟩; have n0_ := Aside0.mk (blk_below (g := gb200) (o := .cells #[.string a0_0, .string a0_1, .string a0_2, .string a0_3, .int .i64 a0_4, .int .i64 a0_5, .int .i64 a0_6, .int .i64 a0_7, .int .i64 a0_8] 37 (0, 0)) (by (with_reducible repeat (first | refine blk_drewN ?_ _ | refine blk_drew ?_ | refine blk_alloc ?_ _)); exact BK200.out) hb); have n1_ := Aside0.mk (blk_below (g := gb201) (o := .cells #[.string a1_0, .string a1_1, .int .i64 a1_2, .int .i64 a1_3, .int .i64 a1_4] 24 (0, 0)) (by (with_reducible repeat (first | refine blk_drewN ?_ _ | refine blk_drew ?_ | refine blk_alloc ?_ _)); exact BK201.out) hb); have n2_ := Aside0.mk (below_step (by repeat (first | (with_reducible first | exact HB.out | apply below_alloc | apply pw_below_drewN | apply below_drew1 | refine below_set ?_ GE200.out | refine below_set ?_ GE201.out) | exact HB.out)) hb); clear BK200; clear BK201; clear HB; have BK200 := n0_; have BK201 := n1_; have HB := n2_; clear n0_ n1_ n2_; (try clear hb); (try clear hb2); (try clear hk); (try clear hi)))
        go_meet
        case rel => exact ⟨_, (true), (by first | rfl | (simp; done) | (simp [*]; done)), H', ⟨by first | omega | exact Nat.le_refl _⟩, ⟨by (with_reducible repeat (first | refine blk_drewN ?_ _ | refine blk_drew ?_ | refine blk_alloc ?_ _)); exact BK200.out⟩, ⟨by (with_reducible repeat (first | refine blk_drewN ?_ _ | refine blk_drew ?_ | refine blk_alloc ?_ _)); exact BK201.out⟩, ⟨by repeat (first | (with_reducible first | exact HB.out | apply below_alloc | apply pw_below_drewN | apply below_drew1 | refine below_set ?_ GE200.out | refine below_set ?_ GE201.out) | exact HB.out)⟩⟩
      · rw [if_neg c13] at H
        have c13b0 : decide (a2 < 0) = false := decide_eq_false c13
        clear c13
        (first | rw [c13b0] | (simp only [i64_w, i32_w]; rw [c13b0]) | skip)
        by_cases c18 : a2 > 65535
        · rw [if_pos c18] at H
          have c18b0 : decide (65535 < a2) = true := decide_eq_true c18
          clear c18
          have H' := Aside0.mk H
          clear H
          have hnb19 := NB200_201.out
          have hnc19 := NB201_200.out
          have hcz20_0 : w10.cell? ⟨gb200, 0, none⟩ = some (.string a0_0) := (blk_cell BK200.out 0).trans rfl
          have hcz20_1 : w10.cell? ⟨gb200, 1, none⟩ = some (.string a0_1) := (blk_cell BK200.out 1).trans rfl
          have hcz20_2 : w10.cell? ⟨gb200, 2, none⟩ = some (.string a0_2) := (blk_cell BK200.out 2).trans rfl
          have hcz20_3 : w10.cell? ⟨gb200, 3, none⟩ = some (.string a0_3) := (blk_cell BK200.out 3).trans rfl
          have hcz20_4 : w10.cell? ⟨gb200, 4, none⟩ = some (.int .i64 a0_4) := (blk_cell BK200.out 4).trans rfl
          have hcz20_5 : w10.cell? ⟨gb200, 5, none⟩ = some (.int .i64 a0_5) := (blk_cell BK200.out 5).trans rfl
          have hcz20_6 : w10.cell? ⟨gb200, 6, none⟩ = some (.int .i64 a0_6) := (blk_cell BK200.out 6).trans rfl
          have hcz20_7 : w10.cell? ⟨gb200, 7, none⟩ = some (.int .i64 a0_7) := (blk_cell BK200.out 7).trans rfl
          have hcz20_8 : w10.cell? ⟨gb200, 8, none⟩ = some (.int .i64 a0_8) := (blk_cell BK200.out 8).trans rfl
          have hfz20_0 := blk_frozen BK200.out 0
          have hfz20_1 := blk_frozen BK200.out 1
          have hfz20_2 := blk_frozen BK200.out 2
          have hfz20_3 := blk_frozen BK200.out 3
          have hfz20_4 := blk_frozen BK200.out 4
          have hfz20_5 := blk_frozen BK200.out 5
          have hfz20_6 := blk_frozen BK200.out 6
          have hfz20_7 := blk_frozen BK200.out 7
          have hfz20_8 := blk_frozen BK200.out 8
          have hcz21_0 : w10.cell? ⟨gb201, 0, none⟩ = some (.string a1_0) := (blk_cell BK201.out 0).trans rfl
          have hcz21_1 : w10.cell? ⟨gb201, 1, none⟩ = some (.string a1_1) := (blk_cell BK201.out 1).trans rfl
          have hcz21_2 : w10.cell? ⟨gb201, 2, none⟩ = some (.int .i64 a1_2) := (blk_cell BK201.out 2).trans rfl
          have hcz21_3 : w10.cell? ⟨gb201, 3, none⟩ = some (.int .i64 a1_3) := (blk_cell BK201.out 3).trans rfl
          have hcz21_4 : w10.cell? ⟨gb201, 4, none⟩ = some (.int .i64 a1_4) := (blk_cell BK201.out 4).trans rfl
          have hfz21_0 := blk_frozen BK201.out 0
          have hfz21_1 := blk_frozen BK201.out 1
          have hfz21_2 := blk_frozen BK201.out 2
          have hfz21_3 := blk_frozen BK201.out 3
          have hfz21_4 := blk_frozen BK201.out 4
          go_wp2_with (first | ((with_reducible refine gate_callee (f := 13) rfl ?_); refine goesL_ (some 18) rfl rfl Try.func13 (by kernel_rfl) rfl #[.agg #[.string a0_0, .string a0_1, .string a0_2, .string a0_3, .int .i64 a0_4, .int .i64 a0_5, .int .i64 a0_6, .int .i64 a0_7, .int .i64 a0_8], .agg #[.string a1_0, .string a1_1, .int .i64 a1_2, .int .i64 a1_3, .int .i64 a1_4]] rfl (by (try simp only [List.map_toArray, List.map_cons, List.map_nil]); first | done | rfl | (simp only [List.length_drop, List.length_take]; rfl)) ?_; (with_reducible refine (redoubtlaw15_few.calls a0_0 a0_1 a0_2 a0_3 a0_4 a0_5 a0_6 a0_7 a0_8 a1_0 a1_1 a1_2 a1_3 a1_4 true _ A11.out).mono ?_); rintro e w22 ⟨rfl, hb⟩; refine ⟨_, rfl, ?_⟩; have n0_ := Aside0.mk (blk_below (g := gb200) (o := .cells #[.string a0_0, .string a0_1, .string a0_2, .string a0_3, .int .i64 a0_4, .int .i64 a0_5, .int .i64 a0_6, .int .i64 a0_7, .int .i64 a0_8] 37 (0, 0)) (by (with_reducible repeat (first | refine blk_drewN ?_ _ | refine blk_drew ?_ | refine blk_alloc ?_ _)); exact BK200.out) hb); have n1_ := Aside0.mk (blk_below (g := gb201) (o := .cells #[.string a1_0, .string a1_1, .int .i64 a1_2, .int .i64 a1_3, .int .i64 a1_4] 24 (0, 0)) (by (with_reducible repeat (first | refine blk_drewN ?_ _ | refine blk_drew ?_ | refine blk_alloc ?_ _)); exact BK201.out) hb); have n2_ := Aside0.mk (below_step (by repeat (first | (with_reducible first | exact HB.out | apply below_alloc | apply pw_below_drewN | apply below_drew1 | refine below_set ?_ GE200.out | refine below_set ?_ GE201.out) | exact HB.out)) hb); clear BK200; clear BK201; clear HB; have BK200 := n0_; have BK201 := n1_; have HB := n2_; clear n0_ n1_ n2_; (try clear hb); (try clear hb2); (try clear hk); (try clear hi)))
          go_meet
          case rel => exact ⟨_, (true), (by first | rfl | (simp; done) | (simp [*]; done)), H', ⟨by first | omega | exact Nat.le_refl _⟩, ⟨by (with_reducible repeat (first | refine blk_drewN ?_ _ | refine blk_drew ?_ | refine blk_alloc ?_ _)); exact BK200.out⟩, ⟨by (with_reducible repeat (first | refine blk_drewN ?_ _ | refine blk_drew ?_ | refine blk_alloc ?_ _)); exact BK201.out⟩, ⟨by repeat (first | (with_reducible first | exact HB.out | apply below_alloc | apply pw_below_drewN | apply below_drew1 | refine below_set ?_ GE200.out | refine below_set ?_ GE201.out) | exact HB.out)⟩⟩
        · rw [if_neg c18] at H
          have c18b0 : decide (65535 < a2) = false := decide_eq_false c18
          clear c18
          by_cases c23 : a3 < 0
          · rw [if_pos c23] at H
            have c23b0 : decide (a3 < 0) = true := decide_eq_true c23
            clear c23
            have H' := Aside0.mk H
            clear H
            have hnb24 := NB200_201.out
            have hnc24 := NB201_200.out
            have hcz25_0 : w10.cell? ⟨gb200, 0, none⟩ = some (.string a0_0) := (blk_cell BK200.out 0).trans rfl
            have hcz25_1 : w10.cell? ⟨gb200, 1, none⟩ = some (.string a0_1) := (blk_cell BK200.out 1).trans rfl
            have hcz25_2 : w10.cell? ⟨gb200, 2, none⟩ = some (.string a0_2) := (blk_cell BK200.out 2).trans rfl
            have hcz25_3 : w10.cell? ⟨gb200, 3, none⟩ = some (.string a0_3) := (blk_cell BK200.out 3).trans rfl
            have hcz25_4 : w10.cell? ⟨gb200, 4, none⟩ = some (.int .i64 a0_4) := (blk_cell BK200.out 4).trans rfl
            have hcz25_5 : w10.cell? ⟨gb200, 5, none⟩ = some (.int .i64 a0_5) := (blk_cell BK200.out 5).trans rfl
            have hcz25_6 : w10.cell? ⟨gb200, 6, none⟩ = some (.int .i64 a0_6) := (blk_cell BK200.out 6).trans rfl
            have hcz25_7 : w10.cell? ⟨gb200, 7, none⟩ = some (.int .i64 a0_7) := (blk_cell BK200.out 7).trans rfl
            have hcz25_8 : w10.cell? ⟨gb200, 8, none⟩ = some (.int .i64 a0_8) := (blk_cell BK200.out 8).trans rfl
            have hfz25_0 := blk_frozen BK200.out 0
            have hfz25_1 := blk_frozen BK200.out 1
            have hfz25_2 := blk_frozen BK200.out 2
            have hfz25_3 := blk_frozen BK200.out 3
            have hfz25_4 := blk_frozen BK200.out 4
            have hfz25_5 := blk_frozen BK200.out 5
            have hfz25_6 := blk_frozen BK200.out 6
            have hfz25_7 := blk_frozen BK200.out 7
            have hfz25_8 := blk_frozen BK200.out 8
            have hcz26_0 : w10.cell? ⟨gb201, 0, none⟩ = some (.string a1_0) := (blk_cell BK201.out 0).trans rfl
            have hcz26_1 : w10.cell? ⟨gb201, 1, none⟩ = some (.string a1_1) := (blk_cell BK201.out 1).trans rfl
            have hcz26_2 : w10.cell? ⟨gb201, 2, none⟩ = some (.int .i64 a1_2) := (blk_cell BK201.out 2).trans rfl
            have hcz26_3 : w10.cell? ⟨gb201, 3, none⟩ = some (.int .i64 a1_3) := (blk_cell BK201.out 3).trans rfl
            have hcz26_4 : w10.cell? ⟨gb201, 4, none⟩ = some (.int .i64 a1_4) := (blk_cell BK201.out 4).trans rfl
            have hfz26_0 := blk_frozen BK201.out 0
            have hfz26_1 := blk_frozen BK201.out 1
            have hfz26_2 := blk_frozen BK201.out 2
            have hfz26_3 := blk_frozen BK201.out 3
            have hfz26_4 := blk_frozen BK201.out 4
            go_wp2_with (first | ((with_reducible refine gate_callee (f := 13) rfl ?_); refine goesL_ (some 18) rfl rfl Try.func13 (by kernel_rfl) rfl #[.agg #[.string a0_0, .string a0_1, .string a0_2, .string a0_3, .int .i64 a0_4, .int .i64 a0_5, .int .i64 a0_6, .int .i64 a0_7, .int .i64 a0_8], .agg #[.string a1_0, .string a1_1, .int .i64 a1_2, .int .i64 a1_3, .int .i64 a1_4]] rfl (by (try simp only [List.map_toArray, List.map_cons, List.map_nil]); first | done | rfl | (simp only [List.length_drop, List.length_take]; rfl)) ?_; (with_reducible refine (redoubtlaw15_few.calls a0_0 a0_1 a0_2 a0_3 a0_4 a0_5 a0_6 a0_7 a0_8 a1_0 a1_1 a1_2 a1_3 a1_4 true _ A11.out).mono ?_); rintro e w27 ⟨rfl, hb⟩; refine ⟨_, rfl, ?_⟩; have n0_ := Aside0.mk (blk_below (g := gb200) (o := .cells #[.string a0_0, .string a0_1, .string a0_2, .string a0_3, .int .i64 a0_4, .int .i64 a0_5, .int .i64 a0_6, .int .i64 a0_7, .int .i64 a0_8] 37 (0, 0)) (by (with_reducible repeat (first | refine blk_drewN ?_ _ | refine blk_drew ?_ | refine blk_alloc ?_ _)); exact BK200.out) hb); have n1_ := Aside0.mk (blk_below (g := gb201) (o := .cells #[.string a1_0, .string a1_1, .int .i64 a1_2, .int .i64 a1_3, .int .i64 a1_4] 24 (0, 0)) (by (with_reducible repeat (first | refine blk_drewN ?_ _ | refine blk_drew ?_ | refine blk_alloc ?_ _)); exact BK201.out) hb); have n2_ := Aside0.mk (below_step (by repeat (first | (with_reducible first | exact HB.out | apply below_alloc | apply pw_below_drewN | apply below_drew1 | refine below_set ?_ GE200.out | refine below_set ?_ GE201.out) | exact HB.out)) hb); clear BK200; clear BK201; clear HB; have BK200 := n0_; have BK201 := n1_; have HB := n2_; clear n0_ n1_ n2_; (try clear hb); (try clear hb2); (try clear hk); (try clear hi)))
            go_meet
            case rel => exact ⟨_, (true), (by first | rfl | (simp; done) | (simp [*]; done)), H', ⟨by first | omega | exact Nat.le_refl _⟩, ⟨by (with_reducible repeat (first | refine blk_drewN ?_ _ | refine blk_drew ?_ | refine blk_alloc ?_ _)); exact BK200.out⟩, ⟨by (with_reducible repeat (first | refine blk_drewN ?_ _ | refine blk_drew ?_ | refine blk_alloc ?_ _)); exact BK201.out⟩, ⟨by repeat (first | (with_reducible first | exact HB.out | apply below_alloc | apply pw_below_drewN | apply below_drew1 | refine below_set ?_ GE200.out | refine below_set ?_ GE201.out) | exact HB.out)⟩⟩
          · rw [if_neg c23] at H
            have c23b0 : decide (a3 < 0) = false := decide_eq_false c23
            clear c23
            by_cases c28 : a3 > 65535
            · rw [if_pos c28] at H
              have c28b0 : decide (65535 < a3) = true := decide_eq_true c28
              clear c28
              have H' := Aside0.mk H
              clear H
              have hnb29 := NB200_201.out
              have hnc29 := NB201_200.out
              have hcz30_0 : w10.cell? ⟨gb200, 0, none⟩ = some (.string a0_0) := (blk_cell BK200.out 0).trans rfl
              have hcz30_1 : w10.cell? ⟨gb200, 1, none⟩ = some (.string a0_1) := (blk_cell BK200.out 1).trans rfl
              have hcz30_2 : w10.cell? ⟨gb200, 2, none⟩ = some (.string a0_2) := (blk_cell BK200.out 2).trans rfl
              have hcz30_3 : w10.cell? ⟨gb200, 3, none⟩ = some (.string a0_3) := (blk_cell BK200.out 3).trans rfl
              have hcz30_4 : w10.cell? ⟨gb200, 4, none⟩ = some (.int .i64 a0_4) := (blk_cell BK200.out 4).trans rfl
              have hcz30_5 : w10.cell? ⟨gb200, 5, none⟩ = some (.int .i64 a0_5) := (blk_cell BK200.out 5).trans rfl
              have hcz30_6 : w10.cell? ⟨gb200, 6, none⟩ = some (.int .i64 a0_6) := (blk_cell BK200.out 6).trans rfl
              have hcz30_7 : w10.cell? ⟨gb200, 7, none⟩ = some (.int .i64 a0_7) := (blk_cell BK200.out 7).trans rfl
              have hcz30_8 : w10.cell? ⟨gb200, 8, none⟩ = some (.int .i64 a0_8) := (blk_cell BK200.out 8).trans rfl
              have hfz30_0 := blk_frozen BK200.out 0
              have hfz30_1 := blk_frozen BK200.out 1
              have hfz30_2 := blk_frozen BK200.out 2
              have hfz30_3 := blk_frozen BK200.out 3
              have hfz30_4 := blk_frozen BK200.out 4
              have hfz30_5 := blk_frozen BK200.out 5
              have hfz30_6 := blk_frozen BK200.out 6
              have hfz30_7 := blk_frozen BK200.out 7
              have hfz30_8 := blk_frozen BK200.out 8
              have hcz31_0 : w10.cell? ⟨gb201, 0, none⟩ = some (.string a1_0) := (blk_cell BK201.out 0).trans rfl
              have hcz31_1 : w10.cell? ⟨gb201, 1, none⟩ = some (.string a1_1) := (blk_cell BK201.out 1).trans rfl
              have hcz31_2 : w10.cell? ⟨gb201, 2, none⟩ = some (.int .i64 a1_2) := (blk_cell BK201.out 2).trans rfl
              have hcz31_3 : w10.cell? ⟨gb201, 3, none⟩ = some (.int .i64 a1_3) := (blk_cell BK201.out 3).trans rfl
              have hcz31_4 : w10.cell? ⟨gb201, 4, none⟩ = some (.int .i64 a1_4) := (blk_cell BK201.out 4).trans rfl
              have hfz31_0 := blk_frozen BK201.out 0
              have hfz31_1 := blk_frozen BK201.out 1
              have hfz31_2 := blk_frozen BK201.out 2
              have hfz31_3 := blk_frozen BK201.out 3
              have hfz31_4 := blk_frozen BK201.out 4
              go_wp2_with (first | ((with_reducible refine gate_callee (f := 13) rfl ?_); refine goesL_ (some 18) rfl rfl Try.func13 (by kernel_rfl) rfl #[.agg #[.string a0_0, .string a0_1, .string a0_2, .string a0_3, .int .i64 a0_4, .int .i64 a0_5, .int .i64 a0_6, .int .i64 a0_7, .int .i64 a0_8], .agg #[.string a1_0, .string a1_1, .int .i64 a1_2, .int .i64 a1_3, .int .i64 a1_4]] rfl (by (try simp only [List.map_toArray, List.map_cons, List.map_nil]); first | done | rfl | (simp only [List.length_drop, List.length_take]; rfl)) ?_; (with_reducible refine (redoubtlaw15_few.calls a0_0 a0_1 a0_2 a0_3 a0_4 a0_5 a0_6 a0_7 a0_8 a1_0 a1_1 a1_2 a1_3 a1_4 true _ A11.out).mono ?_); rintro e w32 ⟨rfl, hb⟩; refine ⟨_, rfl, ?_⟩; have n0_ := Aside0.mk (blk_below (g := gb200) (o := .cells #[.string a0_0, .string a0_1, .string a0_2, .string a0_3, .int .i64 a0_4, .int .i64 a0_5, .int .i64 a0_6, .int .i64 a0_7, .int .i64 a0_8] 37 (0, 0)) (by (with_reducible repeat (first | refine blk_drewN ?_ _ | refine blk_drew ?_ | refine blk_alloc ?_ _)); exact BK200.out) hb); have n1_ := Aside0.mk (blk_below (g := gb201) (o := .cells #[.string a1_0, .string a1_1, .int .i64 a1_2, .int .i64 a1_3, .int .i64 a1_4] 24 (0, 0)) (by (with_reducible repeat (first | refine blk_drewN ?_ _ | refine blk_drew ?_ | refine blk_alloc ?_ _)); exact BK201.out) hb); have n2_ := Aside0.mk (below_step (by repeat (first | (with_reducible first | exact HB.out | apply below_alloc | apply pw_below_drewN | apply below_drew1 | refine below_set ?_ GE200.out | refine below_set ?_ GE201.out) | exact HB.out)) hb); clear BK200; clear BK201; clear HB; have BK200 := n0_; have BK201 := n1_; have HB := n2_; clear n0_ n1_ n2_; (try clear hb); (try clear hb2); (try clear hk); (try clear hi)))
              go_meet
              case rel => exact ⟨_, (true), (by first | rfl | (simp; done) | (simp [*]; done)), H', ⟨by first | omega | exact Nat.le_refl _⟩, ⟨by (with_reducible repeat (first | refine blk_drewN ?_ _ | refine blk_drew ?_ | refine blk_alloc ?_ _)); exact BK200.out⟩, ⟨by (with_reducible repeat (first | refine blk_drewN ?_ _ | refine blk_drew ?_ | refine blk_alloc ?_ _)); exact BK201.out⟩, ⟨by repeat (first | (with_reducible first | exact HB.out | apply below_alloc | apply pw_below_drewN | apply below_drew1 | refine below_set ?_ GE200.out | refine below_set ?_ GE201.out) | exact HB.out)⟩⟩
            · rw [if_neg c28] at H
              have c28b0 : decide (65535 < a3) = false := decide_eq_false c28
              clear c28
              replace H := Option.bind_eq_some_iff.mp H
              obtain ⟨t203, A330, H⟩ := H
              replace H : (redoubtlaw15_PickWider.j0 k a2 a3 a4 a5 a6 (!t203) a0_0 a0_1 a0_2 a0_3 a0_4 a0_5 a0_6 a0_7 a0_8 a1_0 a1_1 a1_2 a1_3 a1_4) = some r := H
              have A33 := Aside0.mk A330
              clear A330
              have H' := Aside0.mk H
              clear H
              have hnb34 := NB200_201.out
              have hnc34 := NB201_200.out
              have hcz35_0 : w10.cell? ⟨gb200, 0, none⟩ = some (.string a0_0) := (blk_cell BK200.out 0).trans rfl
              have hcz35_1 : w10.cell? ⟨gb200, 1, none⟩ = some (.string a0_1) := (blk_cell BK200.out 1).trans rfl
              have hcz35_2 : w10.cell? ⟨gb200, 2, none⟩ = some (.string a0_2) := (blk_cell BK200.out 2).trans rfl
              have hcz35_3 : w10.cell? ⟨gb200, 3, none⟩ = some (.string a0_3) := (blk_cell BK200.out 3).trans rfl
              have hcz35_4 : w10.cell? ⟨gb200, 4, none⟩ = some (.int .i64 a0_4) := (blk_cell BK200.out 4).trans rfl
              have hcz35_5 : w10.cell? ⟨gb200, 5, none⟩ = some (.int .i64 a0_5) := (blk_cell BK200.out 5).trans rfl
              have hcz35_6 : w10.cell? ⟨gb200, 6, none⟩ = some (.int .i64 a0_6) := (blk_cell BK200.out 6).trans rfl
              have hcz35_7 : w10.cell? ⟨gb200, 7, none⟩ = some (.int .i64 a0_7) := (blk_cell BK200.out 7).trans rfl
              have hcz35_8 : w10.cell? ⟨gb200, 8, none⟩ = some (.int .i64 a0_8) := (blk_cell BK200.out 8).trans rfl
              have hfz35_0 := blk_frozen BK200.out 0
              have hfz35_1 := blk_frozen BK200.out 1
              have hfz35_2 := blk_frozen BK200.out 2
              have hfz35_3 := blk_frozen BK200.out 3
              have hfz35_4 := blk_frozen BK200.out 4
              have hfz35_5 := blk_frozen BK200.out 5
              have hfz35_6 := blk_frozen BK200.out 6
              have hfz35_7 := blk_frozen BK200.out 7
              have hfz35_8 := blk_frozen BK200.out 8
              have hcz36_0 : w10.cell? ⟨gb201, 0, none⟩ = some (.string a1_0) := (blk_cell BK201.out 0).trans rfl
              have hcz36_1 : w10.cell? ⟨gb201, 1, none⟩ = some (.string a1_1) := (blk_cell BK201.out 1).trans rfl
              have hcz36_2 : w10.cell? ⟨gb201, 2, none⟩ = some (.int .i64 a1_2) := (blk_cell BK201.out 2).trans rfl
              have hcz36_3 : w10.cell? ⟨gb201, 3, none⟩ = some (.int .i64 a1_3) := (blk_cell BK201.out 3).trans rfl
              have hcz36_4 : w10.cell? ⟨gb201, 4, none⟩ = some (.int .i64 a1_4) := (blk_cell BK201.out 4).trans rfl
              have hfz36_0 := blk_frozen BK201.out 0
              have hfz36_1 := blk_frozen BK201.out 1
              have hfz36_2 := blk_frozen BK201.out 2
              have hfz36_3 := blk_frozen BK201.out 3
              have hfz36_4 := blk_frozen BK201.out 4
              go_wp2_with (first | ((with_reducible refine gate_callee (f := 13) rfl ?_); refine goesL_ (some 18) rfl rfl Try.func13 (by kernel_rfl) rfl #[.agg #[.string a0_0, .string a0_1, .string a0_2, .string a0_3, .int .i64 a0_4, .int .i64 a0_5, .int .i64 a0_6, .int .i64 a0_7, .int .i64 a0_8], .agg #[.string a1_0, .string a1_1, .int .i64 a1_2, .int .i64 a1_3, .int .i64 a1_4]] rfl (by (try simp only [List.map_toArray, List.map_cons, List.map_nil]); first | done | rfl | (simp only [List.length_drop, List.length_take]; rfl)) ?_; (with_reducible refine (redoubtlaw15_few.calls a0_0 a0_1 a0_2 a0_3 a0_4 a0_5 a0_6 a0_7 a0_8 a1_0 a1_1 a1_2 a1_3 a1_4 true _ A11.out).mono ?_); rintro e w37 ⟨rfl, hb⟩; refine ⟨_, rfl, ?_⟩; have n0_ := Aside0.mk (blk_below (g := gb200) (o := .cells #[.string a0_0, .string a0_1, .string a0_2, .string a0_3, .int .i64 a0_4, .int .i64 a0_5, .int .i64 a0_6, .int .i64 a0_7, .int .i64 a0_8] 37 (0, 0)) (by (with_reducible repeat (first | refine blk_drewN ?_ _ | refine blk_drew ?_ | refine blk_alloc ?_ _)); exact BK200.out) hb); have n1_ := Aside0.mk (blk_below (g := gb201) (o := .cells #[.string a1_0, .string a1_1, .int .i64 a1_2, .int .i64 a1_3, .int .i64 a1_4] 24 (0, 0)) (by (with_reducible repeat (first | refine blk_drewN ?_ _ | refine blk_drew ?_ | refine blk_alloc ?_ _)); exact BK201.out) hb); have n2_ := Aside0.mk (below_step (by repeat (first | (with_reducible first | exact HB.out | apply below_alloc | apply pw_below_drewN | apply below_drew1 | refine below_set ?_ GE200.out | refine below_set ?_ GE201.out) | exact HB.out)) hb); clear BK200; clear BK201; clear HB; have BK200 := n0_; have BK201 := n1_; have HB := n2_; clear n0_ n1_ n2_; (try clear hb); (try clear hb2); (try clear hk); (try clear hi); have hcz38_0 : w37.cell? ⟨gb200, 0, none⟩ = some (.string a0_0) := (blk_cell BK200.out 0).trans rfl; have hcz38_1 : w37.cell? ⟨gb200, 1, none⟩ = some (.string a0_1) := (blk_cell BK200.out 1).trans rfl; have hcz38_2 : w37.cell? ⟨gb200, 2, none⟩ = some (.string a0_2) := (blk_cell BK200.out 2).trans rfl; have hcz38_3 : w37.cell? ⟨gb200, 3, none⟩ = some (.string a0_3) := (blk_cell BK200.out 3).trans rfl; have hcz38_4 : w37.cell? ⟨gb200, 4, none⟩ = some (.int .i64 a0_4) := (blk_cell BK200.out 4).trans rfl; have hcz38_5 : w37.cell? ⟨gb200, 5, none⟩ = some (.int .i64 a0_5) := (blk_cell BK200.out 5).trans rfl; have hcz38_6 : w37.cell? ⟨gb200, 6, none⟩ = some (.int .i64 a0_6) := (blk_cell BK200.out 6).trans rfl; have hcz38_7 : w37.cell? ⟨gb200, 7, none⟩ = some (.int .i64 a0_7) := (blk_cell BK200.out 7).trans rfl; have hcz38_8 : w37.cell? ⟨gb200, 8, none⟩ = some (.int .i64 a0_8) := (blk_cell BK200.out 8).trans rfl; have hfz38_0 := blk_frozen BK200.out 0; have hfz38_1 := blk_frozen BK200.out 1; have hfz38_2 := blk_frozen BK200.out 2; have hfz38_3 := blk_frozen BK200.out 3; have hfz38_4 := blk_frozen BK200.out 4; have hfz38_5 := blk_frozen BK200.out 5; have hfz38_6 := blk_frozen BK200.out 6; have hfz38_7 := blk_frozen BK200.out 7; have hfz38_8 := blk_frozen BK200.out 8; have hcz39_0 : w37.cell? ⟨gb201, 0, none⟩ = some (.string a1_0) := (blk_cell BK201.out 0).trans rfl; have hcz39_1 : w37.cell? ⟨gb201, 1, none⟩ = some (.string a1_1) := (blk_cell BK201.out 1).trans rfl; have hcz39_2 : w37.cell? ⟨gb201, 2, none⟩ = some (.int .i64 a1_2) := (blk_cell BK201.out 2).trans rfl; have hcz39_3 : w37.cell? ⟨gb201, 3, none⟩ = some (.int .i64 a1_3) := (blk_cell BK201.out 3).trans rfl; have hcz39_4 : w37.cell? ⟨gb201, 4, none⟩ = some (.int .i64 a1_4) := (blk_cell BK201.out 4).trans rfl; have hfz39_0 := blk_frozen BK201.out 0; have hfz39_1 := blk_frozen BK201.out 1; have hfz39_2 := blk_frozen BK201.out 2; have hfz39_3 := blk_frozen BK201.out 3; have hfz39_4 := blk_frozen BK201.out 4) | (go_at_call 14; (with_reducible refine (pick_Matches.calls k a0_0 a0_1 a0_2 a0_3 a0_4 a0_5 a0_6 a0_7 a0_8 a1_0 a1_1 a1_2 a1_3 a1_4 t203 _ A33.out).mono ?_); rintro e w40 ⟨rfl, hb⟩; have n0_ := Aside0.mk (blk_below (g := gb200) (o := .cells #[.string a0_0, .string a0_1, .string a0_2, .string a0_3, .int .i64 a0_4, .int .i64 a0_5, .int .i64 a0_6, .int .i64 a0_7, .int .i64 a0_8] 37 (0, 0)) (by (with_reducible repeat (first | refine blk_drewN ?_ _ | refine blk_drew ?_ | refine blk_alloc ?_ _)); exact BK200.out) hb); have n1_ := Aside0.mk (blk_below (g := gb201) (o := .cells #[.string a1_0, .string a1_1, .int .i64 a1_2, .int .i64 a1_3, .int .i64 a1_4] 24 (0, 0)) (by (with_reducible repeat (first | refine blk_drewN ?_ _ | refine blk_drew ?_ | refine blk_alloc ?_ _)); exact BK201.out) hb); have n2_ := Aside0.mk (below_step (by repeat (first | (with_reducible first | exact HB.out | apply below_alloc | apply pw_below_drewN | apply below_drew1 | refine below_set ?_ GE200.out | refine below_set ?_ GE201.out) | exact HB.out)) hb); clear BK200; clear BK201; clear HB; have BK200 := n0_; have BK201 := n1_; have HB := n2_; clear n0_ n1_ n2_; (try clear hb); (try clear hb2); (try clear hk); (try clear hi)))
              go_meet
              case rel => exact ⟨_, (!t203), (by first | rfl | (simp; done) | (simp [*]; done)), H', ⟨by first | omega | exact Nat.le_refl _⟩, ⟨by (with_reducible repeat (first | refine blk_drewN ?_ _ | refine blk_drew ?_ | refine blk_alloc ?_ _)); exact BK200.out⟩, ⟨by (with_reducible repeat (first | refine blk_drewN ?_ _ | refine blk_drew ?_ | refine blk_alloc ?_ _)); exact BK201.out⟩, ⟨by repeat (first | (with_reducible first | exact HB.out | apply below_alloc | apply pw_below_drewN | apply below_drew1 | refine below_set ?_ GE200.out | refine below_set ?_ GE201.out) | exact HB.out)⟩⟩
    · replace c12 := Bool.eq_false_iff.mpr c12
      subst c12
      have H1 : (redoubtlaw15_PickWider.j0 k a2 a3 a4 a5 a6 true a0_0 a0_1 a0_2 a0_3 a0_4 a0_5 a0_6 a0_7 a0_8 a1_0 a1_1 a1_2 a1_3 a1_4) = some r := by rw [if_neg (show ¬ (false = true) by decide)] at H; exact H
      clear H
      have H := H1
      clear H1
      have H' := Aside0.mk H
      clear H
      have hnb41 := NB200_201.out
      have hnc41 := NB201_200.out
      have hcz42_0 : w10.cell? ⟨gb200, 0, none⟩ = some (.string a0_0) := (blk_cell BK200.out 0).trans rfl
      have hcz42_1 : w10.cell? ⟨gb200, 1, none⟩ = some (.string a0_1) := (blk_cell BK200.out 1).trans rfl
      have hcz42_2 : w10.cell? ⟨gb200, 2, none⟩ = some (.string a0_2) := (blk_cell BK200.out 2).trans rfl
      have hcz42_3 : w10.cell? ⟨gb200, 3, none⟩ = some (.string a0_3) := (blk_cell BK200.out 3).trans rfl
      have hcz42_4 : w10.cell? ⟨gb200, 4, none⟩ = some (.int .i64 a0_4) := (blk_cell BK200.out 4).trans rfl
      have hcz42_5 : w10.cell? ⟨gb200, 5, none⟩ = some (.int .i64 a0_5) := (blk_cell BK200.out 5).trans rfl
      have hcz42_6 : w10.cell? ⟨gb200, 6, none⟩ = some (.int .i64 a0_6) := (blk_cell BK200.out 6).trans rfl
      have hcz42_7 : w10.cell? ⟨gb200, 7, none⟩ = some (.int .i64 a0_7) := (blk_cell BK200.out 7).trans rfl
      have hcz42_8 : w10.cell? ⟨gb200, 8, none⟩ = some (.int .i64 a0_8) := (blk_cell BK200.out 8).trans rfl
      have hfz42_0 := blk_frozen BK200.out 0
      have hfz42_1 := blk_frozen BK200.out 1
      have hfz42_2 := blk_frozen BK200.out 2
      have hfz42_3 := blk_frozen BK200.out 3
      have hfz42_4 := blk_frozen BK200.out 4
      have hfz42_5 := blk_frozen BK200.out 5
      have hfz42_6 := blk_frozen BK200.out 6
      have hfz42_7 := blk_frozen BK200.out 7
      have hfz42_8 := blk_frozen BK200.out 8
      have hcz43_0 : w10.cell? ⟨gb201, 0, none⟩ = some (.string a1_0) := (blk_cell BK201.out 0).trans rfl
      have hcz43_1 : w10.cell? ⟨gb201, 1, none⟩ = some (.string a1_1) := (blk_cell BK201.out 1).trans rfl
      have hcz43_2 : w10.cell? ⟨gb201, 2, none⟩ = some (.int .i64 a1_2) := (blk_cell BK201.out 2).trans rfl
      have hcz43_3 : w10.cell? ⟨gb201, 3, none⟩ = some (.int .i64 a1_3) := (blk_cell BK201.out 3).trans rfl
      have hcz43_4 : w10.cell? ⟨gb201, 4, none⟩ = some (.int .i64 a1_4) := (blk_cell BK201.out 4).trans rfl
      have hfz43_0 := blk_frozen BK201.out 0
      have hfz43_1 := blk_frozen BK201.out 1
      have hfz43_2 := blk_frozen BK201.out 2
      have hfz43_3 := blk_frozen BK201.out 3
      have hfz43_4 := blk_frozen BK201.out 4
      go_wp2_with (first | ((with_reducible refine gate_callee (f := 13) rfl ?_); refine goesL_ (some 18) rfl rfl Try.func13 (by kernel_rfl) rfl #[.agg #[.string a0_0, .string a0_1, .string a0_2, .string a0_3, .int .i64 a0_4, .int .i64 a0_5, .int .i64 a0_6, .int .i64 a0_7, .int .i64 a0_8], .agg #[.string a1_0, .string a1_1, .int .i64 a1_2, .int .i64 a1_3, .int .i64 a1_4]] rfl (by (try simp only [List.map_toArray, List.map_cons, List.map_nil]); first | done | rfl | (simp only [List.length_drop, List.length_take]; rfl)) ?_; (with_reducible refine (redoubtlaw15_few.calls a0_0 a0_1 a0_2 a0_3 a0_4 a0_5 a0_6 a0_7 a0_8 a1_0 a1_1 a1_2 a1_3 a1_4 false _ A11.out).mono ?_); rintro e w44 ⟨rfl, hb⟩; refine ⟨_, rfl, ?_⟩; have n0_ := Aside0.mk (blk_below (g := gb200) (o := .cells #[.string a0_0, .string a0_1, .string a0_2, .string a0_3, .int .i64 a0_4, .int .i64 a0_5, .int .i64 a0_6, .int .i64 a0_7, .int .i64 a0_8] 37 (0, 0)) (by (with_reducible repeat (first | refine blk_drewN ?_ _ | refine blk_drew ?_ | refine blk_alloc ?_ _)); exact BK200.out) hb); have n1_ := Aside0.mk (blk_below (g := gb201) (o := .cells #[.string a1_0, .string a1_1, .int .i64 a1_2, .int .i64 a1_3, .int .i64 a1_4] 24 (0, 0)) (by (with_reducible repeat (first | refine blk_drewN ?_ _ | refine blk_drew ?_ | refine blk_alloc ?_ _)); exact BK201.out) hb); have n2_ := Aside0.mk (below_step (by repeat (first | (with_reducible first | exact HB.out | apply below_alloc | apply pw_below_drewN | apply below_drew1 | refine below_set ?_ GE200.out | refine below_set ?_ GE201.out) | exact HB.out)) hb); clear BK200; clear BK201; clear HB; have BK200 := n0_; have BK201 := n1_; have HB := n2_; clear n0_ n1_ n2_; (try clear hb); (try clear hb2); (try clear hk); (try clear hi)))
      go_meet
      case rel => exact ⟨_, (true), (by first | rfl | (simp; done) | (simp [*]; done)), H', ⟨by first | omega | exact Nat.le_refl _⟩, ⟨by (with_reducible repeat (first | refine blk_drewN ?_ _ | refine blk_drew ?_ | refine blk_alloc ?_ _)); exact BK200.out⟩, ⟨by (with_reducible repeat (first | refine blk_drewN ?_ _ | refine blk_drew ?_ | refine blk_alloc ?_ _)); exact BK201.out⟩, ⟨by repeat (first | (with_reducible first | exact HB.out | apply below_alloc | apply pw_below_drewN | apply below_drew1 | refine below_set ?_ GE200.out | refine below_set ?_ GE201.out) | exact HB.out)⟩⟩
  case rest =>
    clear HC8
    try clear c1
    try clear c2
    try clear p2
    try clear c3
    try clear c4
    try clear c5
    try clear c12
    try clear c13
    try clear c13b0
    try clear c14
    try clear c18
    try clear c18b0
    try clear c19
    try clear c23
    try clear c23b0
    try clear c24
    try clear c28
    try clear c28b0
    try clear c29
    try clear c34
    try clear c41
    try clear hcz15_0
    try clear hcz15_1
    try clear hcz15_2
    try clear hcz15_3
    try clear hcz15_4
    try clear hcz15_5
    try clear hcz15_6
    try clear hcz15_7
    try clear hcz15_8
    try clear hcz16_0
    try clear hcz16_1
    try clear hcz16_2
    try clear hcz16_3
    try clear hcz16_4
    try clear hcz20_0
    try clear hcz20_1
    try clear hcz20_2
    try clear hcz20_3
    try clear hcz20_4
    try clear hcz20_5
    try clear hcz20_6
    try clear hcz20_7
    try clear hcz20_8
    try clear hcz21_0
    try clear hcz21_1
    try clear hcz21_2
    try clear hcz21_3
    try clear hcz21_4
    try clear hcz25_0
    try clear hcz25_1
    try clear hcz25_2
    try clear hcz25_3
    try clear hcz25_4
    try clear hcz25_5
    try clear hcz25_6
    try clear hcz25_7
    try clear hcz25_8
    try clear hcz26_0
    try clear hcz26_1
    try clear hcz26_2
    try clear hcz26_3
    try clear hcz26_4
    try clear hcz30_0
    try clear hcz30_1
    try clear hcz30_2
    try clear hcz30_3
    try clear hcz30_4
    try clear hcz30_5
    try clear hcz30_6
    try clear hcz30_7
    try clear hcz30_8
    try clear hcz31_0
    try clear hcz31_1
    try clear hcz31_2
    try clear hcz31_3
    try clear hcz31_4
    try clear hcz35_0
    try clear hcz35_1
    try clear hcz35_2
    try clear hcz35_3
    try clear hcz35_4
    try clear hcz35_5
    try clear hcz35_6
    try clear hcz35_7
    try clear hcz35_8
    try clear hcz36_0
    try clear hcz36_1
    try clear hcz36_2
    try clear hcz36_3
    try clear hcz36_4
    try clear hcz38_0
    try clear hcz38_1
    try clear hcz38_2
    try clear hcz38_3
    try clear hcz38_4
    try clear hcz38_5
    try clear hcz38_6
    try clear hcz38_7
    try clear hcz38_8
    try clear hcz39_0
    try clear hcz39_1
    try clear hcz39_2
    try clear hcz39_3
    try clear hcz39_4
    try clear hcz42_0
    try clear hcz42_1
    try clear hcz42_2
    try clear hcz42_3
    try clear hcz42_4
    try clear hcz42_5
    try clear hcz42_6
    try clear hcz42_7
    try clear hcz42_8
    try clear hcz43_0
    try clear hcz43_1
    try clear hcz43_2
    try clear hcz43_3
    try clear hcz43_4
    try clear hfz15_0
    try clear hfz15_1
    try clear hfz15_2
    try clear hfz15_3
    try clear hfz15_4
    try clear hfz15_5
    try clear hfz15_6
    try clear hfz15_7
    try clear hfz15_8
    try clear hfz16_0
    try clear hfz16_1
    try clear hfz16_2
    try clear hfz16_3
    try clear hfz16_4
    try clear hfz20_0
    try clear hfz20_1
    try clear hfz20_2
    try clear hfz20_3
    try clear hfz20_4
    try clear hfz20_5
    try clear hfz20_6
    try clear hfz20_7
    try clear hfz20_8
    try clear hfz21_0
    try clear hfz21_1
    try clear hfz21_2
    try clear hfz21_3
    try clear hfz21_4
    try clear hfz25_0
    try clear hfz25_1
    try clear hfz25_2
    try clear hfz25_3
    try clear hfz25_4
    try clear hfz25_5
    try clear hfz25_6
    try clear hfz25_7
    try clear hfz25_8
    try clear hfz26_0
    try clear hfz26_1
    try clear hfz26_2
    try clear hfz26_3
    try clear hfz26_4
    try clear hfz30_0
    try clear hfz30_1
    try clear hfz30_2
    try clear hfz30_3
    try clear hfz30_4
    try clear hfz30_5
    try clear hfz30_6
    try clear hfz30_7
    try clear hfz30_8
    try clear hfz31_0
    try clear hfz31_1
    try clear hfz31_2
    try clear hfz31_3
    try clear hfz31_4
    try clear hfz35_0
    try clear hfz35_1
    try clear hfz35_2
    try clear hfz35_3
    try clear hfz35_4
    try clear hfz35_5
    try clear hfz35_6
    try clear hfz35_7
    try clear hfz35_8
    try clear hfz36_0
    try clear hfz36_1
    try clear hfz36_2
    try clear hfz36_3
    try clear hfz36_4
    try clear hfz38_0
    try clear hfz38_1
    try clear hfz38_2
    try clear hfz38_3
    try clear hfz38_4
    try clear hfz38_5
    try clear hfz38_6
    try clear hfz38_7
    try clear hfz38_8
    try clear hfz39_0
    try clear hfz39_1
    try clear hfz39_2
    try clear hfz39_3
    try clear hfz39_4
    try clear hfz42_0
    try clear hfz42_1
    try clear hfz42_2
    try clear hfz42_3
    try clear hfz42_4
    try clear hfz42_5
    try clear hfz42_6
    try clear hfz42_7
    try clear hfz42_8
    try clear hfz43_0
    try clear hfz43_1
    try clear hfz43_2
    try clear hfz43_3
    try clear hfz43_4
    obtain ⟨kq, x41_7, rfl, HA, HJ7, BK200, BK201, HB⟩ := hcut
    cases kq with
    | zero => exact absurd HA.out (by simp [redoubtlaw15_PickWider.j0])
    | succ kj7 =>
      have H := HA.out
      clear HA
      simp only [redoubtlaw15_PickWider.j0] at H
      by_cases c45 : x41_7 = true
      · subst c45
        have H1 : ((redoubtlaw15_awake.f kj7).bind fun t204 => (some t204)) = some r := by rw [if_pos rfl] at H; exact H
        clear H
        have H := H1
        clear H1
        replace H := Option.bind_eq_some_iff.mp H
        obtain ⟨t204, A460, H⟩ := H
        replace H : (some t204) = some r := H
        have A46 := Aside0.mk A460
        clear A460
        obtain rfl := Option.some.inj H
        go_wp2_with (first | ((with_reducible refine gate_callee (f := 10) rfl ?_); refine goesL_ (some 42) rfl rfl Try.func10 (by kernel_rfl) rfl #[] rfl (by (try simp only [List.map_toArray, List.map_cons, List.map_nil]); first | done | rfl | (simp only [List.length_drop, List.length_take]; rfl)) ?_; (with_reducible refine (redoubtlaw15_awake.calls kj7  t204 _ A46.out (by first | rfl | exact HRT.out)).mono ?_); rintro e w47 ⟨rfl, hb⟩; refine ⟨_, rfl, ?_⟩; have n0_ := Aside0.mk (blk_below (g := gb200) (o := .cells #[.string a0_0, .string a0_1, .string a0_2, .string a0_3, .int .i64 a0_4, .int .i64 a0_5, .int .i64 a0_6, .int .i64 a0_7, .int .i64 a0_8] 37 (0, 0)) (by (with_reducible repeat (first | refine blk_drewN ?_ _ | refine blk_drew ?_ | refine blk_alloc ?_ _)); exact BK200.out) hb); have n1_ := Aside0.mk (blk_below (g := gb201) (o := .cells #[.string a1_0, .string a1_1, .int .i64 a1_2, .int .i64 a1_3, .int .i64 a1_4] 24 (0, 0)) (by (with_reducible repeat (first | refine blk_drewN ?_ _ | refine blk_drew ?_ | refine blk_alloc ?_ _)); exact BK201.out) hb); have n2_ := Aside0.mk (below_step (by repeat (first | (with_reducible first | exact HB.out | apply below_alloc | apply pw_below_drewN | apply below_drew1 | refine below_set ?_ GE200.out | refine below_set ?_ GE201.out) | exact HB.out)) hb); clear BK200; clear BK201; clear HB; have BK200 := n0_; have BK201 := n1_; have HB := n2_; clear n0_ n1_ n2_; (try clear hb); (try clear hb2); (try clear hk); (try clear hi)))
        go_ret
        exact ⟨by first | rfl | (simp [errW_none, errW_some] <;> rfl) | (simp [*, errW_none, errW_some] <;> rfl), by repeat (first | (with_reducible first | exact HB.out | apply below_alloc | apply pw_below_drewN | apply below_drew1 | refine below_set ?_ GE200.out | refine below_set ?_ GE201.out) | exact HB.out)⟩
      · replace c45 := Bool.eq_false_iff.mpr c45
        subst c45
        have H1 : (if a4 = true then (redoubtlaw15_PickWider.j1 kj7 a5 a6 a1_0 a1_1 a1_2 a1_3 a1_4 (⟨#[]⟩ : ByteArray) (⟨#[]⟩ : ByteArray) a0_2 a0_3 a0_4 (mx (wrap64 (a0_5 - a2)) 0) (mn (wrap64 (a0_6 + a3)) 65535) (mx (wrap64 (a0_7 - a3)) 0) (mn (wrap64 (a0_8 + a2)) 65535)) else (redoubtlaw15_PickWider.j1 kj7 a5 a6 a1_0 a1_1 a1_2 a1_3 a1_4 a0_0 a0_1 a0_2 a0_3 a0_4 (mx (wrap64 (a0_5 - a2)) 0) (mn (wrap64 (a0_6 + a3)) 65535) (mx (wrap64 (a0_7 - a3)) 0) (mn (wrap64 (a0_8 + a2)) 65535))) = some r := by rw [if_neg (show ¬ (false = true) by decide)] at H; exact H
        clear H
        have H := H1
        clear H1
        obtain ⟨ji48, hji48⟩ : ∃ j_ : Int, (mx (wrap64 (a0_5 - a2)) 0) = j_ := ⟨_, rfl⟩
        replace H : (if a4 = true then (redoubtlaw15_PickWider.j1 kj7 a5 a6 a1_0 a1_1 a1_2 a1_3 a1_4 (⟨#[]⟩ : ByteArray) (⟨#[]⟩ : ByteArray) a0_2 a0_3 a0_4 ji48 (mn (wrap64 (a0_6 + a3)) 65535) (mx (wrap64 (a0_7 - a3)) 0) (mn (wrap64 (a0_8 + a2)) 65535)) else (redoubtlaw15_PickWider.j1 kj7 a5 a6 a1_0 a1_1 a1_2 a1_3 a1_4 a0_0 a0_1 a0_2 a0_3 a0_4 ji48 (mn (wrap64 (a0_6 + a3)) 65535) (mx (wrap64 (a0_7 - a3)) 0) (mn (wrap64 (a0_8 + a2)) 65535))) = some r := by first | (rw [hji48] at H; exact H) | (simp only [hji48] at H ⊢; exact H)
        have hji48_ : (if (wrap64 (a0_5 - a2)) < 0 then 0 else (wrap64 (a0_5 - a2))) = ji48 := hji48
        obtain ⟨ji49, hji49⟩ : ∃ j_ : Int, (mn (wrap64 (a0_6 + a3)) 65535) = j_ := ⟨_, rfl⟩
        replace H : (if a4 = true then (redoubtlaw15_PickWider.j1 kj7 a5 a6 a1_0 a1_1 a1_2 a1_3 a1_4 (⟨#[]⟩ : ByteArray) (⟨#[]⟩ : ByteArray) a0_2 a0_3 a0_4 ji48 ji49 (mx (wrap64 (a0_7 - a3)) 0) (mn (wrap64 (a0_8 + a2)) 65535)) else (redoubtlaw15_PickWider.j1 kj7 a5 a6 a1_0 a1_1 a1_2 a1_3 a1_4 a0_0 a0_1 a0_2 a0_3 a0_4 ji48 ji49 (mx (wrap64 (a0_7 - a3)) 0) (mn (wrap64 (a0_8 + a2)) 65535))) = some r := by first | (rw [hji49] at H; exact H) | (simp only [hji49] at H ⊢; exact H)
        have hji49_ : (if 65535 < (wrap64 (a0_6 + a3)) then 65535 else (wrap64 (a0_6 + a3))) = ji49 := hji49
        obtain ⟨ji50, hji50⟩ : ∃ j_ : Int, (mx (wrap64 (a0_7 - a3)) 0) = j_ := ⟨_, rfl⟩
        replace H : (if a4 = true then (redoubtlaw15_PickWider.j1 kj7 a5 a6 a1_0 a1_1 a1_2 a1_3 a1_4 (⟨#[]⟩ : ByteArray) (⟨#[]⟩ : ByteArray) a0_2 a0_3 a0_4 ji48 ji49 ji50 (mn (wrap64 (a0_8 + a2)) 65535)) else (redoubtlaw15_PickWider.j1 kj7 a5 a6 a1_0 a1_1 a1_2 a1_3 a1_4 a0_0 a0_1 a0_2 a0_3 a0_4 ji48 ji49 ji50 (mn (wrap64 (a0_8 + a2)) 65535))) = some r := by first | (rw [hji50] at H; exact H) | (simp only [hji50] at H ⊢; exact H)
        have hji50_ : (if (wrap64 (a0_7 - a3)) < 0 then 0 else (wrap64 (a0_7 - a3))) = ji50 := hji50
        obtain ⟨ji51, hji51⟩ : ∃ j_ : Int, (mn (wrap64 (a0_8 + a2)) 65535) = j_ := ⟨_, rfl⟩
        replace H : (if a4 = true then (redoubtlaw15_PickWider.j1 kj7 a5 a6 a1_0 a1_1 a1_2 a1_3 a1_4 (⟨#[]⟩ : ByteArray) (⟨#[]⟩ : ByteArray) a0_2 a0_3 a0_4 ji48 ji49 ji50 ji51) else (redoubtlaw15_PickWider.j1 kj7 a5 a6 a1_0 a1_1 a1_2 a1_3 a1_4 a0_0 a0_1 a0_2 a0_3 a0_4 ji48 ji49 ji50 ji51)) = some r := by first | (rw [hji51] at H; exact H) | (simp only [hji51] at H ⊢; exact H)
        have hji51_ : (if 65535 < (wrap64 (a0_8 + a2)) then 65535 else (wrap64 (a0_8 + a2))) = ji51 := hji51
        have HC52 := Aside0.mk H
        clear H
        have hnb53 := NB200_201.out
        have hnc53 := NB201_200.out
        have hcz54_0 : wc.cell? ⟨gb200, 0, none⟩ = some (.string a0_0) := (blk_cell BK200.out 0).trans rfl
        have hcz54_1 : wc.cell? ⟨gb200, 1, none⟩ = some (.string a0_1) := (blk_cell BK200.out 1).trans rfl
        have hcz54_2 : wc.cell? ⟨gb200, 2, none⟩ = some (.string a0_2) := (blk_cell BK200.out 2).trans rfl
        have hcz54_3 : wc.cell? ⟨gb200, 3, none⟩ = some (.string a0_3) := (blk_cell BK200.out 3).trans rfl
        have hcz54_4 : wc.cell? ⟨gb200, 4, none⟩ = some (.int .i64 a0_4) := (blk_cell BK200.out 4).trans rfl
        have hcz54_5 : wc.cell? ⟨gb200, 5, none⟩ = some (.int .i64 a0_5) := (blk_cell BK200.out 5).trans rfl
        have hcz54_6 : wc.cell? ⟨gb200, 6, none⟩ = some (.int .i64 a0_6) := (blk_cell BK200.out 6).trans rfl
        have hcz54_7 : wc.cell? ⟨gb200, 7, none⟩ = some (.int .i64 a0_7) := (blk_cell BK200.out 7).trans rfl
        have hcz54_8 : wc.cell? ⟨gb200, 8, none⟩ = some (.int .i64 a0_8) := (blk_cell BK200.out 8).trans rfl
        have hfz54_0 := blk_frozen BK200.out 0
        have hfz54_1 := blk_frozen BK200.out 1
        have hfz54_2 := blk_frozen BK200.out 2
        have hfz54_3 := blk_frozen BK200.out 3
        have hfz54_4 := blk_frozen BK200.out 4
        have hfz54_5 := blk_frozen BK200.out 5
        have hfz54_6 := blk_frozen BK200.out 6
        have hfz54_7 := blk_frozen BK200.out 7
        have hfz54_8 := blk_frozen BK200.out 8
        go_upto_if 72 with (first | ((with_reducible refine gate_dst (N := 15) rfl ?_); refine box_event ?hg (N := 15) ?hd (cs := #[.string (⟨#[]⟩ : ByteArray), .string (⟨#[]⟩ : ByteArray), .string (⟨#[]⟩ : ByteArray), .string (⟨#[]⟩ : ByteArray), .int .i64 0, .int .i64 0, .int .i64 0, .int .i64 0, .int .i64 0]) (t := 37) ?hr ?_; (case hd => rfl); (case hg => rfl); (case hr => first | (go_simp; done) | (go_simp; rfl)); intro gb205 hg w55 hbox hb; have n0_ := Aside0.mk (blk_below (g := gb200) (o := .cells #[.string a0_0, .string a0_1, .string a0_2, .string a0_3, .int .i64 a0_4, .int .i64 a0_5, .int .i64 a0_6, .int .i64 a0_7, .int .i64 a0_8] 37 (0, 0)) (by (with_reducible repeat (first | refine blk_drewN ?_ _ | refine blk_drew ?_ | refine blk_alloc ?_ _)); exact BK200.out) hb); have n1_ := Aside0.mk (blk_below (g := gb201) (o := .cells #[.string a1_0, .string a1_1, .int .i64 a1_2, .int .i64 a1_3, .int .i64 a1_4] 24 (0, 0)) (by (with_reducible repeat (first | refine blk_drewN ?_ _ | refine blk_drew ?_ | refine blk_alloc ?_ _)); exact BK201.out) hb); have n2_ := Aside0.mk (below_step (by repeat (first | (with_reducible first | exact HB.out | apply below_alloc | apply pw_below_drewN | apply below_drew1 | refine below_set ?_ GE200.out | refine below_set ?_ GE201.out) | exact HB.out)) hb); have n3_ := Aside0.mk (hbox); have n4_ := Aside0.mk ((by rw [hg]; exact (below_size (by repeat (first | (with_reducible first | exact HB.out | apply below_alloc | apply pw_below_drewN | apply below_drew1 | refine below_set ?_ GE200.out | refine below_set ?_ GE201.out) | exact HB.out))) : w.heap.size ≤ gb205)); have n5_ := Aside0.mk ((by rw [hg]; exact (below_size (by repeat (first | (with_reducible first | exact HB.out | apply below_alloc | apply pw_below_drewN | apply below_drew1 | refine below_set ?_ GE200.out | refine below_set ?_ GE201.out) | exact HB.out))) : w.heap.size ≤ gb205)); have n6_ := Aside0.mk ((by rw [hg]; exact Nat.ne_of_lt (blk_lt (g := gb200) (o := .cells #[.string a0_0, .string a0_1, .string a0_2, .string a0_3, .int .i64 a0_4, .int .i64 a0_5, .int .i64 a0_6, .int .i64 a0_7, .int .i64 a0_8] 37 (0, 0)) (by (with_reducible repeat (first | refine blk_drewN ?_ _ | refine blk_drew ?_ | refine blk_alloc ?_ _)); exact BK200.out)) : gb200 ≠ gb205)); have n7_ := Aside0.mk ((by rw [hg]; exact Nat.ne_of_gt (blk_lt (g := gb200) (o := .cells #[.string a0_0, .string a0_1, .string a0_2, .string a0_3, .int .i64 a0_4, .int .i64 a0_5, .int .i64 a0_6, .int .i64 a0_7, .int .i64 a0_8] 37 (0, 0)) (by (with_reducible repeat (first | refine blk_drewN ?_ _ | refine blk_drew ?_ | refine blk_alloc ?_ _)); exact BK200.out)) : gb205 ≠ gb200)); have n8_ := Aside0.mk ((by rw [hg]; exact Nat.ne_of_lt (blk_lt (g := gb201) (o := .cells #[.string a1_0, .string a1_1, .int .i64 a1_2, .int .i64 a1_3, .int .i64 a1_4] 24 (0, 0)) (by (with_reducible repeat (first | refine blk_drewN ?_ _ | refine blk_drew ?_ | refine blk_alloc ?_ _)); exact BK201.out)) : gb201 ≠ gb205)); have n9_ := Aside0.mk ((by rw [hg]; exact Nat.ne_of_gt (blk_lt (g := gb201) (o := .cells #[.string a1_0, .string a1_1, .int .i64 a1_2, .int .i64 a1_3, .int .i64 a1_4] 24 (0, 0)) (by (with_reducible repeat (first | refine blk_drewN ?_ _ | refine blk_drew ?_ | refine blk_alloc ?_ _)); exact BK201.out)) : gb205 ≠ gb201)); clear BK200; clear BK201; clear HB; have BK200 := n0_; have BK201 := n1_; have HB := n2_; have BK205 := n3_; have GW205 := n4_; have GE205 := n5_; have NB200_205 := n6_; have NB205_200 := n7_; have NB201_205 := n8_; have NB205_201 := n9_; clear n0_ n1_ n2_ n3_ n4_ n5_ n6_ n7_ n8_ n9_; clear hb hbox hg; have hnb56 := NB205_200.out; have hnc56 := NB200_205.out; have hnb57 := NB205_201.out; have hnc57 := NB201_205.out; have hcz58_0 : w55.cell? ⟨gb205, 0, none⟩ = some (.string (⟨#[]⟩ : ByteArray)) := (blk_cell BK205.out 0).trans rfl; have hcz58_1 : w55.cell? ⟨gb205, 1, none⟩ = some (.string (⟨#[]⟩ : ByteArray)) := (blk_cell BK205.out 1).trans rfl; have hcz58_2 : w55.cell? ⟨gb205, 2, none⟩ = some (.string (⟨#[]⟩ : ByteArray)) := (blk_cell BK205.out 2).trans rfl; have hcz58_3 : w55.cell? ⟨gb205, 3, none⟩ = some (.string (⟨#[]⟩ : ByteArray)) := (blk_cell BK205.out 3).trans rfl; have hcz58_4 : w55.cell? ⟨gb205, 4, none⟩ = some (.int .i64 0) := (blk_cell BK205.out 4).trans rfl; have hcz58_5 : w55.cell? ⟨gb205, 5, none⟩ = some (.int .i64 0) := (blk_cell BK205.out 5).trans rfl; have hcz58_6 : w55.cell? ⟨gb205, 6, none⟩ = some (.int .i64 0) := (blk_cell BK205.out 6).trans rfl; have hcz58_7 : w55.cell? ⟨gb205, 7, none⟩ = some (.int .i64 0) := (blk_cell BK205.out 7).trans rfl; have hcz58_8 : w55.cell? ⟨gb205, 8, none⟩ = some (.int .i64 0) := (blk_cell BK205.out 8).trans rfl; have hfz58_0 := blk_frozen BK205.out 0; have hfz58_1 := blk_frozen BK205.out 1; have hfz58_2 := blk_frozen BK205.out 2; have hfz58_3 := blk_frozen BK205.out 3; have hfz58_4 := blk_frozen BK205.out 4; have hfz58_5 := blk_frozen BK205.out 5; have hfz58_6 := blk_frozen BK205.out 6; have hfz58_7 := blk_frozen BK205.out 7; have hfz58_8 := blk_frozen BK205.out 8; have hcz59_0 : w55.cell? ⟨gb200, 0, none⟩ = some (.string a0_0) := (blk_cell BK200.out 0).trans rfl; have hcz59_1 : w55.cell? ⟨gb200, 1, none⟩ = some (.string a0_1) := (blk_cell BK200.out 1).trans rfl; have hcz59_2 : w55.cell? ⟨gb200, 2, none⟩ = some (.string a0_2) := (blk_cell BK200.out 2).trans rfl; have hcz59_3 : w55.cell? ⟨gb200, 3, none⟩ = some (.string a0_3) := (blk_cell BK200.out 3).trans rfl; have hcz59_4 : w55.cell? ⟨gb200, 4, none⟩ = some (.int .i64 a0_4) := (blk_cell BK200.out 4).trans rfl; have hcz59_5 : w55.cell? ⟨gb200, 5, none⟩ = some (.int .i64 a0_5) := (blk_cell BK200.out 5).trans rfl; have hcz59_6 : w55.cell? ⟨gb200, 6, none⟩ = some (.int .i64 a0_6) := (blk_cell BK200.out 6).trans rfl; have hcz59_7 : w55.cell? ⟨gb200, 7, none⟩ = some (.int .i64 a0_7) := (blk_cell BK200.out 7).trans rfl; have hcz59_8 : w55.cell? ⟨gb200, 8, none⟩ = some (.int .i64 a0_8) := (blk_cell BK200.out 8).trans rfl; have hfz59_0 := blk_frozen BK200.out 0; have hfz59_1 := blk_frozen BK200.out 1; have hfz59_2 := blk_frozen BK200.out 2; have hfz59_3 := blk_frozen BK200.out 3; have hfz59_4 := blk_frozen BK200.out 4; have hfz59_5 := blk_frozen BK200.out 5; have hfz59_6 := blk_frozen BK200.out 6; have hfz59_7 := blk_frozen BK200.out 7; have hfz59_8 := blk_frozen BK200.out 8))
        (try simp only [Act.put, List.setIfInBounds_toArray, List.set_cons_zero, List.set_cons_succ])
        go_cut [] (fun wc => ∃ (kq : Nat) (x206000_51 : ByteArray) (x206001_51 : ByteArray), Aside0 (redoubtlaw15_PickWider.j1 kq a5 a6 a1_0 a1_1 a1_2 a1_3 a1_4 x206000_51 x206001_51 a0_2 a0_3 a0_4 ji48 ji49 ji50 ji51 = some r) ∧ Aside0 (kq ≤ kj7) ∧ Aside0 (wc.heap[gb200]? = some (.cells #[.string a0_0, .string a0_1, .string a0_2, .string a0_3, .int .i64 a0_4, .int .i64 a0_5, .int .i64 a0_6, .int .i64 a0_7, .int .i64 a0_8] 37 (0, 0))) ∧ Aside0 (wc.heap[gb201]? = some (.cells #[.string a1_0, .string a1_1, .int .i64 a1_2, .int .i64 a1_3, .int .i64 a1_4] 24 (0, 0))) ∧ Aside0 (wc.heap[gb205]? = some (.cells #[.string x206000_51, .string x206001_51, .string a0_2, .string a0_3, .int .i64 a0_4, .int .i64 ji48, .int .i64 ji49, .int .i64 ji50, .int .i64 ji51] 37 (0, 0))) ∧ Aside0 (Below w.heap.size w wc))
        case first =>
          have H := HC52.out
          clear HC52
          by_cases c60 : a4 = true
          · subst c60
            have H1 : (redoubtlaw15_PickWider.j1 kj7 a5 a6 a1_0 a1_1 a1_2 a1_3 a1_4 (⟨#[]⟩ : ByteArray) (⟨#[]⟩ : ByteArray) a0_2 a0_3 a0_4 ji48 ji49 ji50 ji51) = some r := by rw [if_pos rfl] at H; exact H
            clear H
            have H := H1
            clear H1
            have H' := Aside0.mk H
            clear H
            have hnb61 := NB205_200.out
            have hnc61 := NB200_205.out
            have hnb62 := NB205_201.out
            have hnc62 := NB201_205.out
            have hcz63_0 : w55.cell? ⟨gb205, 0, none⟩ = some (.string (⟨#[]⟩ : ByteArray)) := (blk_cell BK205.out 0).trans rfl
            have hcz63_1 : w55.cell? ⟨gb205, 1, none⟩ = some (.string (⟨#[]⟩ : ByteArray)) := (blk_cell BK205.out 1).trans rfl
            have hcz63_2 : w55.cell? ⟨gb205, 2, none⟩ = some (.string (⟨#[]⟩ : ByteArray)) := (blk_cell BK205.out 2).trans rfl
            have hcz63_3 : w55.cell? ⟨gb205, 3, none⟩ = some (.string (⟨#[]⟩ : ByteArray)) := (blk_cell BK205.out 3).trans rfl
            have hcz63_4 : w55.cell? ⟨gb205, 4, none⟩ = some (.int .i64 0) := (blk_cell BK205.out 4).trans rfl
            have hcz63_5 : w55.cell? ⟨gb205, 5, none⟩ = some (.int .i64 0) := (blk_cell BK205.out 5).trans rfl
            have hcz63_6 : w55.cell? ⟨gb205, 6, none⟩ = some (.int .i64 0) := (blk_cell BK205.out 6).trans rfl
            have hcz63_7 : w55.cell? ⟨gb205, 7, none⟩ = some (.int .i64 0) := (blk_cell BK205.out 7).trans rfl
            have hcz63_8 : w55.cell? ⟨gb205, 8, none⟩ = some (.int .i64 0) := (blk_cell BK205.out 8).trans rfl
            have hfz63_0 := blk_frozen BK205.out 0
            have hfz63_1 := blk_frozen BK205.out 1
            have hfz63_2 := blk_frozen BK205.out 2
            have hfz63_3 := blk_frozen BK205.out 3
            have hfz63_4 := blk_frozen BK205.out 4
            have hfz63_5 := blk_frozen BK205.out 5
            have hfz63_6 := blk_frozen BK205.out 6
            have hfz63_7 := blk_frozen BK205.out 7
            have hfz63_8 := blk_frozen BK205.out 8
            go_wp2
            go_meet
            case rel => exact ⟨_, ((⟨#[]⟩ : ByteArray)), ((⟨#[]⟩ : ByteArray)), H', ⟨by have := HJ7.out; first | omega | exact Nat.le_refl _⟩, ⟨by (with_reducible repeat (first | refine blk_drewN ?_ _ | refine blk_drew ?_ | refine blk_alloc ?_ _)); refine blk_far ?_ NB200_205.out _; (with_reducible repeat (first | refine blk_drewN ?_ _ | refine blk_drew ?_ | refine blk_alloc ?_ _)); refine blk_far ?_ NB200_205.out _; (with_reducible repeat (first | refine blk_drewN ?_ _ | refine blk_drew ?_ | refine blk_alloc ?_ _)); refine blk_far ?_ NB200_205.out _; (with_reducible repeat (first | refine blk_drewN ?_ _ | refine blk_drew ?_ | refine blk_alloc ?_ _)); refine blk_far ?_ NB200_205.out _; (with_reducible repeat (first | refine blk_drewN ?_ _ | refine blk_drew ?_ | refine blk_alloc ?_ _)); refine blk_far ?_ NB200_205.out _; (with_reducible repeat (first | refine blk_drewN ?_ _ | refine blk_drew ?_ | refine blk_alloc ?_ _)); refine blk_far ?_ NB200_205.out _; (with_reducible repeat (first | refine blk_drewN ?_ _ | refine blk_drew ?_ | refine blk_alloc ?_ _)); refine blk_far ?_ NB200_205.out _; (with_reducible repeat (first | refine blk_drewN ?_ _ | refine blk_drew ?_ | refine blk_alloc ?_ _)); refine blk_far ?_ NB200_205.out _; (with_reducible repeat (first | refine blk_drewN ?_ _ | refine blk_drew ?_ | refine blk_alloc ?_ _)); refine blk_far ?_ NB200_205.out _; (with_reducible repeat (first | refine blk_drewN ?_ _ | refine blk_drew ?_ | refine blk_alloc ?_ _)); refine blk_far ?_ NB200_205.out _; (with_reducible repeat (first | refine blk_drewN ?_ _ | refine blk_drew ?_ | refine blk_alloc ?_ _)); refine blk_far ?_ NB200_205.out _; (with_reducible repeat (first | refine blk_drewN ?_ _ | refine blk_drew ?_ | refine blk_alloc ?_ _)); refine blk_far ?_ NB200_205.out _; (with_reducible repeat (first | refine blk_drewN ?_ _ | refine blk_drew ?_ | refine blk_alloc ?_ _)); refine blk_far ?_ NB200_205.out _; (with_reducible repeat (first | refine blk_drewN ?_ _ | refine blk_drew ?_ | refine blk_alloc ?_ _)); refine blk_far ?_ NB200_205.out _; (with_reducible repeat (first | refine blk_drewN ?_ _ | refine blk_drew ?_ | refine blk_alloc ?_ _)); refine blk_far ?_ NB200_205.out _; (with_reducible repeat (first | refine blk_drewN ?_ _ | refine blk_drew ?_ | refine blk_alloc ?_ _)); exact BK200.out⟩, ⟨by (with_reducible repeat (first | refine blk_drewN ?_ _ | refine blk_drew ?_ | refine blk_alloc ?_ _)); refine blk_far ?_ NB201_205.out _; (with_reducible repeat (first | refine blk_drewN ?_ _ | refine blk_drew ?_ | refine blk_alloc ?_ _)); refine blk_far ?_ NB201_205.out _; (with_reducible repeat (first | refine blk_drewN ?_ _ | refine blk_drew ?_ | refine blk_alloc ?_ _)); refine blk_far ?_ NB201_205.out _; (with_reducible repeat (first | refine blk_drewN ?_ _ | refine blk_drew ?_ | refine blk_alloc ?_ _)); refine blk_far ?_ NB201_205.out _; (with_reducible repeat (first | refine blk_drewN ?_ _ | refine blk_drew ?_ | refine blk_alloc ?_ _)); refine blk_far ?_ NB201_205.out _; (with_reducible repeat (first | refine blk_drewN ?_ _ | refine blk_drew ?_ | refine blk_alloc ?_ _)); refine blk_far ?_ NB201_205.out _; (with_reducible repeat (first | refine blk_drewN ?_ _ | refine blk_drew ?_ | refine blk_alloc ?_ _)); refine blk_far ?_ NB201_205.out _; (with_reducible repeat (first | refine blk_drewN ?_ _ | refine blk_drew ?_ | refine blk_alloc ?_ _)); refine blk_far ?_ NB201_205.out _; (with_reducible repeat (first | refine blk_drewN ?_ _ | refine blk_drew ?_ | refine blk_alloc ?_ _)); refine blk_far ?_ NB201_205.out _; (with_reducible repeat (first | refine blk_drewN ?_ _ | refine blk_drew ?_ | refine blk_alloc ?_ _)); refine blk_far ?_ NB201_205.out _; (with_reducible repeat (first | refine blk_drewN ?_ _ | refine blk_drew ?_ | refine blk_alloc ?_ _)); refine blk_far ?_ NB201_205.out _; (with_reducible repeat (first | refine blk_drewN ?_ _ | refine blk_drew ?_ | refine blk_alloc ?_ _)); refine blk_far ?_ NB201_205.out _; (with_reducible repeat (first | refine blk_drewN ?_ _ | refine blk_drew ?_ | refine blk_alloc ?_ _)); refine blk_far ?_ NB201_205.out _; (with_reducible repeat (first | refine blk_drewN ?_ _ | refine blk_drew ?_ | refine blk_alloc ?_ _)); refine blk_far ?_ NB201_205.out _; (with_reducible repeat (first | refine blk_drewN ?_ _ | refine blk_drew ?_ | refine blk_alloc ?_ _)); refine blk_far ?_ NB201_205.out _; (with_reducible repeat (first | refine blk_drewN ?_ _ | refine blk_drew ?_ | refine blk_alloc ?_ _)); exact BK201.out⟩, ⟨by (with_reducible repeat (first | refine blk_drewN ?_ _ | refine blk_drew ?_ | refine blk_alloc ?_ _)); refine blk_put (cs := #[.string (⟨#[]⟩ : ByteArray), .string a0_1, .string a0_2, .string a0_3, .int .i64 a0_4, .int .i64 ji48, .int .i64 ji49, .int .i64 ji50, .int .i64 ji51]) ?_ 1 _ rfl; (with_reducible repeat (first | refine blk_drewN ?_ _ | refine blk_drew ?_ | refine blk_alloc ?_ _)); refine blk_put (cs := #[.string a0_0, .string a0_1, .string a0_2, .string a0_3, .int .i64 a0_4, .int .i64 ji48, .int .i64 ji49, .int .i64 ji50, .int .i64 ji51]) ?_ 0 _ rfl; (with_reducible repeat (first | refine blk_drewN ?_ _ | refine blk_drew ?_ | refine blk_alloc ?_ _)); refine blk_put (cs := #[.string a0_0, .string a0_1, .string a0_2, .string a0_3, .int .i64 a0_4, .int .i64 ji48, .int .i64 ji49, .int .i64 ji50, .int .i64 a0_8]) ?_ 8 _ rfl; (with_reducible repeat (first | refine blk_drewN ?_ _ | refine blk_drew ?_ | refine blk_alloc ?_ _)); refine blk_put (cs := #[.string a0_0, .string a0_1, .string a0_2, .string a0_3, .int .i64 a0_4, .int .i64 ji48, .int .i64 ji49, .int .i64 a0_7, .int .i64 a0_8]) ?_ 7 _ rfl; (with_reducible repeat (first | refine blk_drewN ?_ _ | refine blk_drew ?_ | refine blk_alloc ?_ _)); refine blk_put (cs := #[.string a0_0, .string a0_1, .string a0_2, .string a0_3, .int .i64 a0_4, .int .i64 ji48, .int .i64 a0_6, .int .i64 a0_7, .int .i64 a0_8]) ?_ 6 _ rfl; (with_reducible repeat (first | refine blk_drewN ?_ _ | refine blk_drew ?_ | refine blk_alloc ?_ _)); refine blk_put (cs := #[.string a0_0, .string a0_1, .string a0_2, .string a0_3, .int .i64 a0_4, .int .i64 a0_5, .int .i64 a0_6, .int .i64 a0_7, .int .i64 a0_8]) ?_ 5 _ rfl; (with_reducible repeat (first | refine blk_drewN ?_ _ | refine blk_drew ?_ | refine blk_alloc ?_ _)); refine blk_put (cs := #[.string a0_0, .string a0_1, .string a0_2, .string a0_3, .int .i64 a0_4, .int .i64 a0_5, .int .i64 a0_6, .int .i64 a0_7, .int .i64 0]) ?_ 8 _ rfl; (with_reducible repeat (first | refine blk_drewN ?_ _ | refine blk_drew ?_ | refine blk_alloc ?_ _)); refine blk_put (cs := #[.string a0_0, .string a0_1, .string a0_2, .string a0_3, .int .i64 a0_4, .int .i64 a0_5, .int .i64 a0_6, .int .i64 0, .int .i64 0]) ?_ 7 _ rfl; (with_reducible repeat (first | refine blk_drewN ?_ _ | refine blk_drew ?_ | refine blk_alloc ?_ _)); refine blk_put (cs := #[.string a0_0, .string a0_1, .string a0_2, .string a0_3, .int .i64 a0_4, .int .i64 a0_5, .int .i64 0, .int .i64 0, .int .i64 0]) ?_ 6 _ rfl; (with_reducible repeat (first | refine blk_drewN ?_ _ | refine blk_drew ?_ | refine blk_alloc ?_ _)); refine blk_put (cs := #[.string a0_0, .string a0_1, .string a0_2, .string a0_3, .int .i64 a0_4, .int .i64 0, .int .i64 0, .int .i64 0, .int .i64 0]) ?_ 5 _ rfl; (with_reducible repeat (first | refine blk_drewN ?_ _ | refine blk_drew ?_ | refine blk_alloc ?_ _)); refine blk_put (cs := #[.string a0_0, .string a0_1, .string a0_2, .string a0_3, .int .i64 0, .int .i64 0, .int .i64 0, .int .i64 0, .int .i64 0]) ?_ 4 _ rfl; (with_reducible repeat (first | refine blk_drewN ?_ _ | refine blk_drew ?_ | refine blk_alloc ?_ _)); refine blk_put (cs := #[.string a0_0, .string a0_1, .string a0_2, .string (⟨#[]⟩ : ByteArray), .int .i64 0, .int .i64 0, .int .i64 0, .int .i64 0, .int .i64 0]) ?_ 3 _ rfl; (with_reducible repeat (first | refine blk_drewN ?_ _ | refine blk_drew ?_ | refine blk_alloc ?_ _)); refine blk_put (cs := #[.string a0_0, .string a0_1, .string (⟨#[]⟩ : ByteArray), .string (⟨#[]⟩ : ByteArray), .int .i64 0, .int .i64 0, .int .i64 0, .int .i64 0, .int .i64 0]) ?_ 2 _ rfl; (with_reducible repeat (first | refine blk_drewN ?_ _ | refine blk_drew ?_ | refine blk_alloc ?_ _)); refine blk_put (cs := #[.string a0_0, .string (⟨#[]⟩ : ByteArray), .string (⟨#[]⟩ : ByteArray), .string (⟨#[]⟩ : ByteArray), .int .i64 0, .int .i64 0, .int .i64 0, .int .i64 0, .int .i64 0]) ?_ 1 _ rfl; (with_reducible repeat (first | refine blk_drewN ?_ _ | refine blk_drew ?_ | refine blk_alloc ?_ _)); refine blk_put (cs := #[.string (⟨#[]⟩ : ByteArray), .string (⟨#[]⟩ : ByteArray), .string (⟨#[]⟩ : ByteArray), .string (⟨#[]⟩ : ByteArray), .int .i64 0, .int .i64 0, .int .i64 0, .int .i64 0, .int .i64 0]) ?_ 0 _ rfl; (with_reducible repeat (first | refine blk_drewN ?_ _ | refine blk_drew ?_ | refine blk_alloc ?_ _)); exact BK205.out⟩, ⟨by repeat (first | (with_reducible first | exact HB.out | apply below_alloc | apply pw_below_drewN | apply below_drew1 | refine below_set ?_ GE200.out | refine below_set ?_ GE201.out | refine below_set ?_ GE205.out) | exact HB.out)⟩⟩
          · replace c60 := Bool.eq_false_iff.mpr c60
            subst c60
            have H1 : (redoubtlaw15_PickWider.j1 kj7 a5 a6 a1_0 a1_1 a1_2 a1_3 a1_4 a0_0 a0_1 a0_2 a0_3 a0_4 ji48 ji49 ji50 ji51) = some r := by rw [if_neg (show ¬ (false = true) by decide)] at H; exact H
            clear H
            have H := H1
            clear H1
            have H' := Aside0.mk H
            clear H
            go_wp2
            go_meet
            case rel => exact ⟨_, (a0_0), (a0_1), H', ⟨by have := HJ7.out; first | omega | exact Nat.le_refl _⟩, ⟨by (with_reducible repeat (first | refine blk_drewN ?_ _ | refine blk_drew ?_ | refine blk_alloc ?_ _)); refine blk_far ?_ NB200_205.out _; (with_reducible repeat (first | refine blk_drewN ?_ _ | refine blk_drew ?_ | refine blk_alloc ?_ _)); refine blk_far ?_ NB200_205.out _; (with_reducible repeat (first | refine blk_drewN ?_ _ | refine blk_drew ?_ | refine blk_alloc ?_ _)); refine blk_far ?_ NB200_205.out _; (with_reducible repeat (first | refine blk_drewN ?_ _ | refine blk_drew ?_ | refine blk_alloc ?_ _)); refine blk_far ?_ NB200_205.out _; (with_reducible repeat (first | refine blk_drewN ?_ _ | refine blk_drew ?_ | refine blk_alloc ?_ _)); refine blk_far ?_ NB200_205.out _; (with_reducible repeat (first | refine blk_drewN ?_ _ | refine blk_drew ?_ | refine blk_alloc ?_ _)); refine blk_far ?_ NB200_205.out _; (with_reducible repeat (first | refine blk_drewN ?_ _ | refine blk_drew ?_ | refine blk_alloc ?_ _)); refine blk_far ?_ NB200_205.out _; (with_reducible repeat (first | refine blk_drewN ?_ _ | refine blk_drew ?_ | refine blk_alloc ?_ _)); refine blk_far ?_ NB200_205.out _; (with_reducible repeat (first | refine blk_drewN ?_ _ | refine blk_drew ?_ | refine blk_alloc ?_ _)); refine blk_far ?_ NB200_205.out _; (with_reducible repeat (first | refine blk_drewN ?_ _ | refine blk_drew ?_ | refine blk_alloc ?_ _)); refine blk_far ?_ NB200_205.out _; (with_reducible repeat (first | refine blk_drewN ?_ _ | refine blk_drew ?_ | refine blk_alloc ?_ _)); refine blk_far ?_ NB200_205.out _; (with_reducible repeat (first | refine blk_drewN ?_ _ | refine blk_drew ?_ | refine blk_alloc ?_ _)); refine blk_far ?_ NB200_205.out _; (with_reducible repeat (first | refine blk_drewN ?_ _ | refine blk_drew ?_ | refine blk_alloc ?_ _)); refine blk_far ?_ NB200_205.out _; (with_reducible repeat (first | refine blk_drewN ?_ _ | refine blk_drew ?_ | refine blk_alloc ?_ _)); exact BK200.out⟩, ⟨by (with_reducible repeat (first | refine blk_drewN ?_ _ | refine blk_drew ?_ | refine blk_alloc ?_ _)); refine blk_far ?_ NB201_205.out _; (with_reducible repeat (first | refine blk_drewN ?_ _ | refine blk_drew ?_ | refine blk_alloc ?_ _)); refine blk_far ?_ NB201_205.out _; (with_reducible repeat (first | refine blk_drewN ?_ _ | refine blk_drew ?_ | refine blk_alloc ?_ _)); refine blk_far ?_ NB201_205.out _; (with_reducible repeat (first | refine blk_drewN ?_ _ | refine blk_drew ?_ | refine blk_alloc ?_ _)); refine blk_far ?_ NB201_205.out _; (with_reducible repeat (first | refine blk_drewN ?_ _ | refine blk_drew ?_ | refine blk_alloc ?_ _)); refine blk_far ?_ NB201_205.out _; (with_reducible repeat (first | refine blk_drewN ?_ _ | refine blk_drew ?_ | refine blk_alloc ?_ _)); refine blk_far ?_ NB201_205.out _; (with_reducible repeat (first | refine blk_drewN ?_ _ | refine blk_drew ?_ | refine blk_alloc ?_ _)); refine blk_far ?_ NB201_205.out _; (with_reducible repeat (first | refine blk_drewN ?_ _ | refine blk_drew ?_ | refine blk_alloc ?_ _)); refine blk_far ?_ NB201_205.out _; (with_reducible repeat (first | refine blk_drewN ?_ _ | refine blk_drew ?_ | refine blk_alloc ?_ _)); refine blk_far ?_ NB201_205.out _; (with_reducible repeat (first | refine blk_drewN ?_ _ | refine blk_drew ?_ | refine blk_alloc ?_ _)); refine blk_far ?_ NB201_205.out _; (with_reducible repeat (first | refine blk_drewN ?_ _ | refine blk_drew ?_ | refine blk_alloc ?_ _)); refine blk_far ?_ NB201_205.out _; (with_reducible repeat (first | refine blk_drewN ?_ _ | refine blk_drew ?_ | refine blk_alloc ?_ _)); refine blk_far ?_ NB201_205.out _; (with_reducible repeat (first | refine blk_drewN ?_ _ | refine blk_drew ?_ | refine blk_alloc ?_ _)); refine blk_far ?_ NB201_205.out _; (with_reducible repeat (first | refine blk_drewN ?_ _ | refine blk_drew ?_ | refine blk_alloc ?_ _)); exact BK201.out⟩, ⟨by (with_reducible repeat (first | refine blk_drewN ?_ _ | refine blk_drew ?_ | refine blk_alloc ?_ _)); refine blk_put (cs := #[.string a0_0, .string a0_1, .string a0_2, .string a0_3, .int .i64 a0_4, .int .i64 ji48, .int .i64 ji49, .int .i64 ji50, .int .i64 a0_8]) ?_ 8 _ rfl; (with_reducible repeat (first | refine blk_drewN ?_ _ | refine blk_drew ?_ | refine blk_alloc ?_ _)); refine blk_put (cs := #[.string a0_0, .string a0_1, .string a0_2, .string a0_3, .int .i64 a0_4, .int .i64 ji48, .int .i64 ji49, .int .i64 a0_7, .int .i64 a0_8]) ?_ 7 _ rfl; (with_reducible repeat (first | refine blk_drewN ?_ _ | refine blk_drew ?_ | refine blk_alloc ?_ _)); refine blk_put (cs := #[.string a0_0, .string a0_1, .string a0_2, .string a0_3, .int .i64 a0_4, .int .i64 ji48, .int .i64 a0_6, .int .i64 a0_7, .int .i64 a0_8]) ?_ 6 _ rfl; (with_reducible repeat (first | refine blk_drewN ?_ _ | refine blk_drew ?_ | refine blk_alloc ?_ _)); refine blk_put (cs := #[.string a0_0, .string a0_1, .string a0_2, .string a0_3, .int .i64 a0_4, .int .i64 a0_5, .int .i64 a0_6, .int .i64 a0_7, .int .i64 a0_8]) ?_ 5 _ rfl; (with_reducible repeat (first | refine blk_drewN ?_ _ | refine blk_drew ?_ | refine blk_alloc ?_ _)); refine blk_put (cs := #[.string a0_0, .string a0_1, .string a0_2, .string a0_3, .int .i64 a0_4, .int .i64 a0_5, .int .i64 a0_6, .int .i64 a0_7, .int .i64 0]) ?_ 8 _ rfl; (with_reducible repeat (first | refine blk_drewN ?_ _ | refine blk_drew ?_ | refine blk_alloc ?_ _)); refine blk_put (cs := #[.string a0_0, .string a0_1, .string a0_2, .string a0_3, .int .i64 a0_4, .int .i64 a0_5, .int .i64 a0_6, .int .i64 0, .int .i64 0]) ?_ 7 _ rfl; (with_reducible repeat (first | refine blk_drewN ?_ _ | refine blk_drew ?_ | refine blk_alloc ?_ _)); refine blk_put (cs := #[.string a0_0, .string a0_1, .string a0_2, .string a0_3, .int .i64 a0_4, .int .i64 a0_5, .int .i64 0, .int .i64 0, .int .i64 0]) ?_ 6 _ rfl; (with_reducible repeat (first | refine blk_drewN ?_ _ | refine blk_drew ?_ | refine blk_alloc ?_ _)); refine blk_put (cs := #[.string a0_0, .string a0_1, .string a0_2, .string a0_3, .int .i64 a0_4, .int .i64 0, .int .i64 0, .int .i64 0, .int .i64 0]) ?_ 5 _ rfl; (with_reducible repeat (first | refine blk_drewN ?_ _ | refine blk_drew ?_ | refine blk_alloc ?_ _)); refine blk_put (cs := #[.string a0_0, .string a0_1, .string a0_2, .string a0_3, .int .i64 0, .int .i64 0, .int .i64 0, .int .i64 0, .int .i64 0]) ?_ 4 _ rfl; (with_reducible repeat (first | refine blk_drewN ?_ _ | refine blk_drew ?_ | refine blk_alloc ?_ _)); refine blk_put (cs := #[.string a0_0, .string a0_1, .string a0_2, .string (⟨#[]⟩ : ByteArray), .int .i64 0, .int .i64 0, .int .i64 0, .int .i64 0, .int .i64 0]) ?_ 3 _ rfl; (with_reducible repeat (first | refine blk_drewN ?_ _ | refine blk_drew ?_ | refine blk_alloc ?_ _)); refine blk_put (cs := #[.string a0_0, .string a0_1, .string (⟨#[]⟩ : ByteArray), .string (⟨#[]⟩ : ByteArray), .int .i64 0, .int .i64 0, .int .i64 0, .int .i64 0, .int .i64 0]) ?_ 2 _ rfl; (with_reducible repeat (first | refine blk_drewN ?_ _ | refine blk_drew ?_ | refine blk_alloc ?_ _)); refine blk_put (cs := #[.string a0_0, .string (⟨#[]⟩ : ByteArray), .string (⟨#[]⟩ : ByteArray), .string (⟨#[]⟩ : ByteArray), .int .i64 0, .int .i64 0, .int .i64 0, .int .i64 0, .int .i64 0]) ?_ 1 _ rfl; (with_reducible repeat (first | refine blk_drewN ?_ _ | refine blk_drew ?_ | refine blk_alloc ?_ _)); refine blk_put (cs := #[.string (⟨#[]⟩ : ByteArray), .string (⟨#[]⟩ : ByteArray), .string (⟨#[]⟩ : ByteArray), .string (⟨#[]⟩ : ByteArray), .int .i64 0, .int .i64 0, .int .i64 0, .int .i64 0, .int .i64 0]) ?_ 0 _ rfl; (with_reducible repeat (first | refine blk_drewN ?_ _ | refine blk_drew ?_ | refine blk_alloc ?_ _)); exact BK205.out⟩, ⟨by repeat (first | (with_reducible first | exact HB.out | apply below_alloc | apply pw_below_drewN | apply below_drew1 | refine below_set ?_ GE200.out | refine below_set ?_ GE201.out | refine below_set ?_ GE205.out) | exact HB.out)⟩⟩
        case rest =>
          clear HC52
          try clear c1
          try clear c2
          try clear p2
          try clear c3
          try clear c4
          try clear c5
          try clear c6
          try clear p6
          try clear c10
          try clear c12
          try clear c13
          try clear c13b0
          try clear c14
          try clear c18
          try clear c18b0
          try clear c19
          try clear c23
          try clear c23b0
          try clear c24
          try clear c28
          try clear c28b0
          try clear c29
          try clear c34
          try clear c41
          try clear c45
          try clear c53
          try clear c56
          try clear c57
          try clear c60
          try clear c61
          try clear c62
          try clear hcz15_0
          try clear hcz15_1
          try clear hcz15_2
          try clear hcz15_3
          try clear hcz15_4
          try clear hcz15_5
          try clear hcz15_6
          try clear hcz15_7
          try clear hcz15_8
          try clear hcz16_0
          try clear hcz16_1
          try clear hcz16_2
          try clear hcz16_3
          try clear hcz16_4
          try clear hcz20_0
          try clear hcz20_1
          try clear hcz20_2
          try clear hcz20_3
          try clear hcz20_4
          try clear hcz20_5
          try clear hcz20_6
          try clear hcz20_7
          try clear hcz20_8
          try clear hcz21_0
          try clear hcz21_1
          try clear hcz21_2
          try clear hcz21_3
          try clear hcz21_4
          try clear hcz25_0
          try clear hcz25_1
          try clear hcz25_2
          try clear hcz25_3
          try clear hcz25_4
          try clear hcz25_5
          try clear hcz25_6
          try clear hcz25_7
          try clear hcz25_8
          try clear hcz26_0
          try clear hcz26_1
          try clear hcz26_2
          try clear hcz26_3
          try clear hcz26_4
          try clear hcz30_0
          try clear hcz30_1
          try clear hcz30_2
          try clear hcz30_3
          try clear hcz30_4
          try clear hcz30_5
          try clear hcz30_6
          try clear hcz30_7
          try clear hcz30_8
          try clear hcz31_0
          try clear hcz31_1
          try clear hcz31_2
          try clear hcz31_3
          try clear hcz31_4
          try clear hcz35_0
          try clear hcz35_1
          try clear hcz35_2
          try clear hcz35_3
          try clear hcz35_4
          try clear hcz35_5
          try clear hcz35_6
          try clear hcz35_7
          try clear hcz35_8
          try clear hcz36_0
          try clear hcz36_1
          try clear hcz36_2
          try clear hcz36_3
          try clear hcz36_4
          try clear hcz38_0
          try clear hcz38_1
          try clear hcz38_2
          try clear hcz38_3
          try clear hcz38_4
          try clear hcz38_5
          try clear hcz38_6
          try clear hcz38_7
          try clear hcz38_8
          try clear hcz39_0
          try clear hcz39_1
          try clear hcz39_2
          try clear hcz39_3
          try clear hcz39_4
          try clear hcz42_0
          try clear hcz42_1
          try clear hcz42_2
          try clear hcz42_3
          try clear hcz42_4
          try clear hcz42_5
          try clear hcz42_6
          try clear hcz42_7
          try clear hcz42_8
          try clear hcz43_0
          try clear hcz43_1
          try clear hcz43_2
          try clear hcz43_3
          try clear hcz43_4
          try clear hcz54_0
          try clear hcz54_1
          try clear hcz54_2
          try clear hcz54_3
          try clear hcz54_4
          try clear hcz54_5
          try clear hcz54_6
          try clear hcz54_7
          try clear hcz54_8
          try clear hcz58_0
          try clear hcz58_1
          try clear hcz58_2
          try clear hcz58_3
          try clear hcz58_4
          try clear hcz58_5
          try clear hcz58_6
          try clear hcz58_7
          try clear hcz58_8
          try clear hcz59_0
          try clear hcz59_1
          try clear hcz59_2
          try clear hcz59_3
          try clear hcz59_4
          try clear hcz59_5
          try clear hcz59_6
          try clear hcz59_7
          try clear hcz59_8
          try clear hcz63_0
          try clear hcz63_1
          try clear hcz63_2
          try clear hcz63_3
          try clear hcz63_4
          try clear hcz63_5
          try clear hcz63_6
          try clear hcz63_7
          try clear hcz63_8
          try clear hfz15_0
          try clear hfz15_1
          try clear hfz15_2
          try clear hfz15_3
          try clear hfz15_4
          try clear hfz15_5
          try clear hfz15_6
          try clear hfz15_7
          try clear hfz15_8
          try clear hfz16_0
          try clear hfz16_1
          try clear hfz16_2
          try clear hfz16_3
          try clear hfz16_4
          try clear hfz20_0
          try clear hfz20_1
          try clear hfz20_2
          try clear hfz20_3
          try clear hfz20_4
          try clear hfz20_5
          try clear hfz20_6
          try clear hfz20_7
          try clear hfz20_8
          try clear hfz21_0
          try clear hfz21_1
          try clear hfz21_2
          try clear hfz21_3
          try clear hfz21_4
          try clear hfz25_0
          try clear hfz25_1
          try clear hfz25_2
          try clear hfz25_3
          try clear hfz25_4
          try clear hfz25_5
          try clear hfz25_6
          try clear hfz25_7
          try clear hfz25_8
          try clear hfz26_0
          try clear hfz26_1
          try clear hfz26_2
          try clear hfz26_3
          try clear hfz26_4
          try clear hfz30_0
          try clear hfz30_1
          try clear hfz30_2
          try clear hfz30_3
          try clear hfz30_4
          try clear hfz30_5
          try clear hfz30_6
          try clear hfz30_7
          try clear hfz30_8
          try clear hfz31_0
          try clear hfz31_1
          try clear hfz31_2
          try clear hfz31_3
          try clear hfz31_4
          try clear hfz35_0
          try clear hfz35_1
          try clear hfz35_2
          try clear hfz35_3
          try clear hfz35_4
          try clear hfz35_5
          try clear hfz35_6
          try clear hfz35_7
          try clear hfz35_8
          try clear hfz36_0
          try clear hfz36_1
          try clear hfz36_2
          try clear hfz36_3
          try clear hfz36_4
          try clear hfz38_0
          try clear hfz38_1
          try clear hfz38_2
          try clear hfz38_3
          try clear hfz38_4
          try clear hfz38_5
          try clear hfz38_6
          try clear hfz38_7
          try clear hfz38_8
          try clear hfz39_0
          try clear hfz39_1
          try clear hfz39_2
          try clear hfz39_3
          try clear hfz39_4
          try clear hfz42_0
          try clear hfz42_1
          try clear hfz42_2
          try clear hfz42_3
          try clear hfz42_4
          try clear hfz42_5
          try clear hfz42_6
          try clear hfz42_7
          try clear hfz42_8
          try clear hfz43_0
          try clear hfz43_1
          try clear hfz43_2
          try clear hfz43_3
          try clear hfz43_4
          try clear hfz54_0
          try clear hfz54_1
          try clear hfz54_2
          try clear hfz54_3
          try clear hfz54_4
          try clear hfz54_5
          try clear hfz54_6
          try clear hfz54_7
          try clear hfz54_8
          try clear hfz58_0
          try clear hfz58_1
          try clear hfz58_2
          try clear hfz58_3
          try clear hfz58_4
          try clear hfz58_5
          try clear hfz58_6
          try clear hfz58_7
          try clear hfz58_8
          try clear hfz59_0
          try clear hfz59_1
          try clear hfz59_2
          try clear hfz59_3
          try clear hfz59_4
          try clear hfz59_5
          try clear hfz59_6
          try clear hfz59_7
          try clear hfz59_8
          try clear hfz63_0
          try clear hfz63_1
          try clear hfz63_2
          try clear hfz63_3
          try clear hfz63_4
          try clear hfz63_5
          try clear hfz63_6
          try clear hfz63_7
          try clear hfz63_8
          try clear p2
          obtain ⟨kq, x206000_51, x206001_51, HA, HJ51, BK200, BK201, BK205, HB⟩ := hcut
          cases kq with
          | zero => exact absurd HA.out (by simp [redoubtlaw15_PickWider.j1])
          | succ kj51 =>
            have H := HA.out
            clear HA
            simp only [redoubtlaw15_PickWider.j1] at H
            have HC64 := Aside0.mk H
            clear H
            go_upto_if 75 with (fail)
            go_cut [] (fun wc => ∃ (kq : Nat) (x206002_63 : ByteArray) (x206003_63 : ByteArray), Aside0 (redoubtlaw15_PickWider.j2 kq a6 a1_0 a1_1 a1_2 a1_3 a1_4 x206000_51 x206001_51 x206002_63 x206003_63 a0_4 ji48 ji49 ji50 ji51 = some r) ∧ Aside0 (kq ≤ kj51) ∧ Aside0 (wc.heap[gb200]? = some (.cells #[.string a0_0, .string a0_1, .string a0_2, .string a0_3, .int .i64 a0_4, .int .i64 a0_5, .int .i64 a0_6, .int .i64 a0_7, .int .i64 a0_8] 37 (0, 0))) ∧ Aside0 (wc.heap[gb201]? = some (.cells #[.string a1_0, .string a1_1, .int .i64 a1_2, .int .i64 a1_3, .int .i64 a1_4] 24 (0, 0))) ∧ Aside0 (wc.heap[gb205]? = some (.cells #[.string x206000_51, .string x206001_51, .string x206002_63, .string x206003_63, .int .i64 a0_4, .int .i64 ji48, .int .i64 ji49, .int .i64 ji50, .int .i64 ji51] 37 (0, 0))) ∧ Aside0 (Below w.heap.size w wc))
            case first =>
              have H := HC64.out
              clear HC64
              by_cases c65 : a5 = true
              · subst c65
                have H1 : (redoubtlaw15_PickWider.j2 kj51 a6 a1_0 a1_1 a1_2 a1_3 a1_4 x206000_51 x206001_51 (⟨#[]⟩ : ByteArray) (⟨#[]⟩ : ByteArray) a0_4 ji48 ji49 ji50 ji51) = some r := by rw [if_pos rfl] at H; exact H
                clear H
                have H := H1
                clear H1
                have H' := Aside0.mk H
                clear H
                have hnb66 := NB205_200.out
                have hnc66 := NB200_205.out
                have hnb67 := NB205_201.out
                have hnc67 := NB201_205.out
                have hcz68_0 : wc.cell? ⟨gb205, 0, none⟩ = some (.string x206000_51) := (blk_cell BK205.out 0).trans rfl
                have hcz68_1 : wc.cell? ⟨gb205, 1, none⟩ = some (.string x206001_51) := (blk_cell BK205.out 1).trans rfl
                have hcz68_2 : wc.cell? ⟨gb205, 2, none⟩ = some (.string a0_2) := (blk_cell BK205.out 2).trans rfl
                have hcz68_3 : wc.cell? ⟨gb205, 3, none⟩ = some (.string a0_3) := (blk_cell BK205.out 3).trans rfl
                have hcz68_4 : wc.cell? ⟨gb205, 4, none⟩ = some (.int .i64 a0_4) := (blk_cell BK205.out 4).trans rfl
                have hcz68_5 : wc.cell? ⟨gb205, 5, none⟩ = some (.int .i64 ji48) := (blk_cell BK205.out 5).trans rfl
                have hcz68_6 : wc.cell? ⟨gb205, 6, none⟩ = some (.int .i64 ji49) := (blk_cell BK205.out 6).trans rfl
                have hcz68_7 : wc.cell? ⟨gb205, 7, none⟩ = some (.int .i64 ji50) := (blk_cell BK205.out 7).trans rfl
                have hcz68_8 : wc.cell? ⟨gb205, 8, none⟩ = some (.int .i64 ji51) := (blk_cell BK205.out 8).trans rfl
                have hfz68_0 := blk_frozen BK205.out 0
                have hfz68_1 := blk_frozen BK205.out 1
                have hfz68_2 := blk_frozen BK205.out 2
                have hfz68_3 := blk_frozen BK205.out 3
                have hfz68_4 := blk_frozen BK205.out 4
                have hfz68_5 := blk_frozen BK205.out 5
                have hfz68_6 := blk_frozen BK205.out 6
                have hfz68_7 := blk_frozen BK205.out 7
                have hfz68_8 := blk_frozen BK205.out 8
                go_wp2
                go_meet
                case rel => exact ⟨_, ((⟨#[]⟩ : ByteArray)), ((⟨#[]⟩ : ByteArray)), H', ⟨by have := HJ7.out; have := HJ51.out; first | omega | exact Nat.le_refl _⟩, ⟨by (with_reducible repeat (first | refine blk_drewN ?_ _ | refine blk_drew ?_ | refine blk_alloc ?_ _)); refine blk_far ?_ NB200_205.out _; (with_reducible repeat (first | refine blk_drewN ?_ _ | refine blk_drew ?_ | refine blk_alloc ?_ _)); refine blk_far ?_ NB200_205.out _; (with_reducible repeat (first | refine blk_drewN ?_ _ | refine blk_drew ?_ | refine blk_alloc ?_ _)); exact BK200.out⟩, ⟨by (with_reducible repeat (first | refine blk_drewN ?_ _ | refine blk_drew ?_ | refine blk_alloc ?_ _)); refine blk_far ?_ NB201_205.out _; (with_reducible repeat (first | refine blk_drewN ?_ _ | refine blk_drew ?_ | refine blk_alloc ?_ _)); refine blk_far ?_ NB201_205.out _; (with_reducible repeat (first | refine blk_drewN ?_ _ | refine blk_drew ?_ | refine blk_alloc ?_ _)); exact BK201.out⟩, ⟨by (with_reducible repeat (first | refine blk_drewN ?_ _ | refine blk_drew ?_ | refine blk_alloc ?_ _)); refine blk_put (cs := #[.string x206000_51, .string x206001_51, .string (⟨#[]⟩ : ByteArray), .string a0_3, .int .i64 a0_4, .int .i64 ji48, .int .i64 ji49, .int .i64 ji50, .int .i64 ji51]) ?_ 3 _ rfl; (with_reducible repeat (first | refine blk_drewN ?_ _ | refine blk_drew ?_ | refine blk_alloc ?_ _)); refine blk_put (cs := #[.string x206000_51, .string x206001_51, .string a0_2, .string a0_3, .int .i64 a0_4, .int .i64 ji48, .int .i64 ji49, .int .i64 ji50, .int .i64 ji51]) ?_ 2 _ rfl; (with_reducible repeat (first | refine blk_drewN ?_ _ | refine blk_drew ?_ | refine blk_alloc ?_ _)); exact BK205.out⟩, ⟨by repeat (first | (with_reducible first | exact HB.out | apply below_alloc | apply pw_below_drewN | apply below_drew1 | refine below_set ?_ GE200.out | refine below_set ?_ GE201.out | refine below_set ?_ GE205.out) | exact HB.out)⟩⟩
              · replace c65 := Bool.eq_false_iff.mpr c65
                subst c65
                have H1 : (redoubtlaw15_PickWider.j2 kj51 a6 a1_0 a1_1 a1_2 a1_3 a1_4 x206000_51 x206001_51 a0_2 a0_3 a0_4 ji48 ji49 ji50 ji51) = some r := by rw [if_neg (show ¬ (false = true) by decide)] at H; exact H
                clear H
                have H := H1
                clear H1
                have H' := Aside0.mk H
                clear H
                go_wp2
                go_meet
                case rel => exact ⟨_, (a0_2), (a0_3), H', ⟨by have := HJ7.out; have := HJ51.out; first | omega | exact Nat.le_refl _⟩, ⟨by (with_reducible repeat (first | refine blk_drewN ?_ _ | refine blk_drew ?_ | refine blk_alloc ?_ _)); exact BK200.out⟩, ⟨by (with_reducible repeat (first | refine blk_drewN ?_ _ | refine blk_drew ?_ | refine blk_alloc ?_ _)); exact BK201.out⟩, ⟨by (with_reducible repeat (first | refine blk_drewN ?_ _ | refine blk_drew ?_ | refine blk_alloc ?_ _)); exact BK205.out⟩, ⟨by repeat (first | (with_reducible first | exact HB.out | apply below_alloc | apply pw_below_drewN | apply below_drew1 | refine below_set ?_ GE200.out | refine below_set ?_ GE201.out | refine below_set ?_ GE205.out) | exact HB.out)⟩⟩
            case rest =>
              clear HC64
              try clear c1
              try clear c2
              try clear p2
              try clear c3
              try clear c4
              try clear c5
              try clear c6
              try clear p6
              try clear c10
              try clear c12
              try clear c13
              try clear c13b0
              try clear c14
              try clear c18
              try clear c18b0
              try clear c19
              try clear c23
              try clear c23b0
              try clear c24
              try clear c28
              try clear c28b0
              try clear c29
              try clear c34
              try clear c41
              try clear c45
              try clear c53
              try clear c56
              try clear c57
              try clear c60
              try clear c61
              try clear c62
              try clear p64
              try clear c65
              try clear c66
              try clear c67
              try clear hcz15_0
              try clear hcz15_1
              try clear hcz15_2
              try clear hcz15_3
              try clear hcz15_4
              try clear hcz15_5
              try clear hcz15_6
              try clear hcz15_7
              try clear hcz15_8
              try clear hcz16_0
              try clear hcz16_1
              try clear hcz16_2
              try clear hcz16_3
              try clear hcz16_4
              try clear hcz20_0
              try clear hcz20_1
              try clear hcz20_2
              try clear hcz20_3
              try clear hcz20_4
              try clear hcz20_5
              try clear hcz20_6
              try clear hcz20_7
              try clear hcz20_8
              try clear hcz21_0
              try clear hcz21_1
              try clear hcz21_2
              try clear hcz21_3
              try clear hcz21_4
              try clear hcz25_0
              try clear hcz25_1
              try clear hcz25_2
              try clear hcz25_3
              try clear hcz25_4
              try clear hcz25_5
              try clear hcz25_6
              try clear hcz25_7
              try clear hcz25_8
              try clear hcz26_0
              try clear hcz26_1
              try clear hcz26_2
              try clear hcz26_3
              try clear hcz26_4
              try clear hcz30_0
              try clear hcz30_1
              try clear hcz30_2
              try clear hcz30_3
              try clear hcz30_4
              try clear hcz30_5
              try clear hcz30_6
              try clear hcz30_7
              try clear hcz30_8
              try clear hcz31_0
              try clear hcz31_1
              try clear hcz31_2
              try clear hcz31_3
              try clear hcz31_4
              try clear hcz35_0
              try clear hcz35_1
              try clear hcz35_2
              try clear hcz35_3
              try clear hcz35_4
              try clear hcz35_5
              try clear hcz35_6
              try clear hcz35_7
              try clear hcz35_8
              try clear hcz36_0
              try clear hcz36_1
              try clear hcz36_2
              try clear hcz36_3
              try clear hcz36_4
              try clear hcz38_0
              try clear hcz38_1
              try clear hcz38_2
              try clear hcz38_3
              try clear hcz38_4
              try clear hcz38_5
              try clear hcz38_6
              try clear hcz38_7
              try clear hcz38_8
              try clear hcz39_0
              try clear hcz39_1
              try clear hcz39_2
              try clear hcz39_3
              try clear hcz39_4
              try clear hcz42_0
              try clear hcz42_1
              try clear hcz42_2
              try clear hcz42_3
              try clear hcz42_4
              try clear hcz42_5
              try clear hcz42_6
              try clear hcz42_7
              try clear hcz42_8
              try clear hcz43_0
              try clear hcz43_1
              try clear hcz43_2
              try clear hcz43_3
              try clear hcz43_4
              try clear hcz54_0
              try clear hcz54_1
              try clear hcz54_2
              try clear hcz54_3
              try clear hcz54_4
              try clear hcz54_5
              try clear hcz54_6
              try clear hcz54_7
              try clear hcz54_8
              try clear hcz58_0
              try clear hcz58_1
              try clear hcz58_2
              try clear hcz58_3
              try clear hcz58_4
              try clear hcz58_5
              try clear hcz58_6
              try clear hcz58_7
              try clear hcz58_8
              try clear hcz59_0
              try clear hcz59_1
              try clear hcz59_2
              try clear hcz59_3
              try clear hcz59_4
              try clear hcz59_5
              try clear hcz59_6
              try clear hcz59_7
              try clear hcz59_8
              try clear hcz63_0
              try clear hcz63_1
              try clear hcz63_2
              try clear hcz63_3
              try clear hcz63_4
              try clear hcz63_5
              try clear hcz63_6
              try clear hcz63_7
              try clear hcz63_8
              try clear hcz68_0
              try clear hcz68_1
              try clear hcz68_2
              try clear hcz68_3
              try clear hcz68_4
              try clear hcz68_5
              try clear hcz68_6
              try clear hcz68_7
              try clear hcz68_8
              try clear hfz15_0
              try clear hfz15_1
              try clear hfz15_2
              try clear hfz15_3
              try clear hfz15_4
              try clear hfz15_5
              try clear hfz15_6
              try clear hfz15_7
              try clear hfz15_8
              try clear hfz16_0
              try clear hfz16_1
              try clear hfz16_2
              try clear hfz16_3
              try clear hfz16_4
              try clear hfz20_0
              try clear hfz20_1
              try clear hfz20_2
              try clear hfz20_3
              try clear hfz20_4
              try clear hfz20_5
              try clear hfz20_6
              try clear hfz20_7
              try clear hfz20_8
              try clear hfz21_0
              try clear hfz21_1
              try clear hfz21_2
              try clear hfz21_3
              try clear hfz21_4
              try clear hfz25_0
              try clear hfz25_1
              try clear hfz25_2
              try clear hfz25_3
              try clear hfz25_4
              try clear hfz25_5
              try clear hfz25_6
              try clear hfz25_7
              try clear hfz25_8
              try clear hfz26_0
              try clear hfz26_1
              try clear hfz26_2
              try clear hfz26_3
              try clear hfz26_4
              try clear hfz30_0
              try clear hfz30_1
              try clear hfz30_2
              try clear hfz30_3
              try clear hfz30_4
              try clear hfz30_5
              try clear hfz30_6
              try clear hfz30_7
              try clear hfz30_8
              try clear hfz31_0
              try clear hfz31_1
              try clear hfz31_2
              try clear hfz31_3
              try clear hfz31_4
              try clear hfz35_0
              try clear hfz35_1
              try clear hfz35_2
              try clear hfz35_3
              try clear hfz35_4
              try clear hfz35_5
              try clear hfz35_6
              try clear hfz35_7
              try clear hfz35_8
              try clear hfz36_0
              try clear hfz36_1
              try clear hfz36_2
              try clear hfz36_3
              try clear hfz36_4
              try clear hfz38_0
              try clear hfz38_1
              try clear hfz38_2
              try clear hfz38_3
              try clear hfz38_4
              try clear hfz38_5
              try clear hfz38_6
              try clear hfz38_7
              try clear hfz38_8
              try clear hfz39_0
              try clear hfz39_1
              try clear hfz39_2
              try clear hfz39_3
              try clear hfz39_4
              try clear hfz42_0
              try clear hfz42_1
              try clear hfz42_2
              try clear hfz42_3
              try clear hfz42_4
              try clear hfz42_5
              try clear hfz42_6
              try clear hfz42_7
              try clear hfz42_8
              try clear hfz43_0
              try clear hfz43_1
              try clear hfz43_2
              try clear hfz43_3
              try clear hfz43_4
              try clear hfz54_0
              try clear hfz54_1
              try clear hfz54_2
              try clear hfz54_3
              try clear hfz54_4
              try clear hfz54_5
              try clear hfz54_6
              try clear hfz54_7
              try clear hfz54_8
              try clear hfz58_0
              try clear hfz58_1
              try clear hfz58_2
              try clear hfz58_3
              try clear hfz58_4
              try clear hfz58_5
              try clear hfz58_6
              try clear hfz58_7
              try clear hfz58_8
              try clear hfz59_0
              try clear hfz59_1
              try clear hfz59_2
              try clear hfz59_3
              try clear hfz59_4
              try clear hfz59_5
              try clear hfz59_6
              try clear hfz59_7
              try clear hfz59_8
              try clear hfz63_0
              try clear hfz63_1
              try clear hfz63_2
              try clear hfz63_3
              try clear hfz63_4
              try clear hfz63_5
              try clear hfz63_6
              try clear hfz63_7
              try clear hfz63_8
              try clear hfz68_0
              try clear hfz68_1
              try clear hfz68_2
              try clear hfz68_3
              try clear hfz68_4
              try clear hfz68_5
              try clear hfz68_6
              try clear hfz68_7
              try clear hfz68_8
              try clear p2
              try clear p6
              obtain ⟨kq, x206002_63, x206003_63, HA, HJ63, BK200, BK201, BK205, HB⟩ := hcut
              cases kq with
              | zero => exact absurd HA.out (by simp [redoubtlaw15_PickWider.j2])
              | succ kj63 =>
                have H := HA.out
                clear HA
                simp only [redoubtlaw15_PickWider.j2] at H
                by_cases c69 : a6 = true
                · subst c69
                  have H1 : ((redoubtlaw15_awake.f kj63).bind fun t206 => (if t206 = true then ((pick_Matches.f kj63 x206000_51 x206001_51 x206002_63 x206003_63 (-1) ji48 ji49 ji50 ji51 a1_0 a1_1 a1_2 a1_3 a1_4).bind fun t207 => (if t207 = true then ((pick_Check.f kj63 x206000_51 x206001_51 x206002_63 x206003_63 (-1) ji48 ji49 ji50 ji51).bind fun t208 => (some (t208 == 0))) else (some false))) else (some false))) = some r := by rw [if_pos rfl] at H; exact H
                  clear H
                  have H := H1
                  clear H1
                  replace H := Option.bind_eq_some_iff.mp H
                  obtain ⟨t206, A700, H⟩ := H
                  replace H : (if t206 = true then ((pick_Matches.f kj63 x206000_51 x206001_51 x206002_63 x206003_63 (-1) ji48 ji49 ji50 ji51 a1_0 a1_1 a1_2 a1_3 a1_4).bind fun t207 => (if t207 = true then ((pick_Check.f kj63 x206000_51 x206001_51 x206002_63 x206003_63 (-1) ji48 ji49 ji50 ji51).bind fun t208 => (some (t208 == 0))) else (some false))) else (some false)) = some r := H
                  have A70 := Aside0.mk A700
                  clear A700
                  by_cases c71 : t206 = true
                  · subst c71
                    have H1 : ((pick_Matches.f kj63 x206000_51 x206001_51 x206002_63 x206003_63 (-1) ji48 ji49 ji50 ji51 a1_0 a1_1 a1_2 a1_3 a1_4).bind fun t207 => (if t207 = true then ((pick_Check.f kj63 x206000_51 x206001_51 x206002_63 x206003_63 (-1) ji48 ji49 ji50 ji51).bind fun t208 => (some (t208 == 0))) else (some false))) = some r := by rw [if_pos rfl] at H; exact H
                    clear H
                    have H := H1
                    clear H1
                    replace H := Option.bind_eq_some_iff.mp H
                    obtain ⟨t207, A720, H⟩ := H
                    replace H : (if t207 = true then ((pick_Check.f kj63 x206000_51 x206001_51 x206002_63 x206003_63 (-1) ji48 ji49 ji50 ji51).bind fun t208 => (some (t208 == 0))) else (some false)) = some r := H
                    have A72 := Aside0.mk A720
                    clear A720
                    by_cases c73 : t207 = true
                    · subst c73
                      have H1 : ((pick_Check.f kj63 x206000_51 x206001_51 x206002_63 x206003_63 (-1) ji48 ji49 ji50 ji51).bind fun t208 => (some (t208 == 0))) = some r := by rw [if_pos rfl] at H; exact H
                      clear H
                      have H := H1
                      clear H1
                      replace H := Option.bind_eq_some_iff.mp H
                      obtain ⟨t208, A740, H⟩ := H
                      replace H : (some (t208 == 0)) = some r := H
                      have A74 := Aside0.mk A740
                      clear A740
                      obtain rfl := Option.some.inj H
                      have hnb75 := NB205_200.out
                      have hnc75 := NB200_205.out
                      have hnb76 := NB205_201.out
                      have hnc76 := NB201_205.out
                      have hcz77_0 : wc.cell? ⟨gb205, 0, none⟩ = some (.string x206000_51) := (blk_cell BK205.out 0).trans rfl
                      have hcz77_1 : wc.cell? ⟨gb205, 1, none⟩ = some (.string x206001_51) := (blk_cell BK205.out 1).trans rfl
                      have hcz77_2 : wc.cell? ⟨gb205, 2, none⟩ = some (.string x206002_63) := (blk_cell BK205.out 2).trans rfl
                      have hcz77_3 : wc.cell? ⟨gb205, 3, none⟩ = some (.string x206003_63) := (blk_cell BK205.out 3).trans rfl
                      have hcz77_4 : wc.cell? ⟨gb205, 4, none⟩ = some (.int .i64 a0_4) := (blk_cell BK205.out 4).trans rfl
                      have hcz77_5 : wc.cell? ⟨gb205, 5, none⟩ = some (.int .i64 ji48) := (blk_cell BK205.out 5).trans rfl
                      have hcz77_6 : wc.cell? ⟨gb205, 6, none⟩ = some (.int .i64 ji49) := (blk_cell BK205.out 6).trans rfl
                      have hcz77_7 : wc.cell? ⟨gb205, 7, none⟩ = some (.int .i64 ji50) := (blk_cell BK205.out 7).trans rfl
                      have hcz77_8 : wc.cell? ⟨gb205, 8, none⟩ = some (.int .i64 ji51) := (blk_cell BK205.out 8).trans rfl
                      have hfz77_0 := blk_frozen BK205.out 0
                      have hfz77_1 := blk_frozen BK205.out 1
                      have hfz77_2 := blk_frozen BK205.out 2
                      have hfz77_3 := blk_frozen BK205.out 3
                      have hfz77_4 := blk_frozen BK205.out 4
                      have hfz77_5 := blk_frozen BK205.out 5
                      have hfz77_6 := blk_frozen BK205.out 6
                      have hfz77_7 := blk_frozen BK205.out 7
                      have hfz77_8 := blk_frozen BK205.out 8
                      go_wp2_with (first | ((with_reducible refine gate_callee (f := 10) rfl ?_); refine goesL_ (some 80) rfl rfl Try.func10 (by kernel_rfl) rfl #[] rfl (by (try simp only [List.map_toArray, List.map_cons, List.map_nil]); first | done | rfl | (simp only [List.length_drop, List.length_take]; rfl)) ?_; (with_reducible refine (redoubtlaw15_awake.calls kj63  true _ A70.out (by first | rfl | exact HRT.out)).mono ?_); rintro e w78 ⟨rfl, hb⟩; refine ⟨_, rfl, ?_⟩; have n0_ := Aside0.mk (blk_below (g := gb200) (o := .cells #[.string a0_0, .string a0_1, .string a0_2, .string a0_3, .int .i64 a0_4, .int .i64 a0_5, .int .i64 a0_6, .int .i64 a0_7, .int .i64 a0_8] 37 (0, 0)) (by (with_reducible repeat (first | refine blk_drewN ?_ _ | refine blk_drew ?_ | refine blk_alloc ?_ _)); refine blk_far ?_ NB200_205.out _; (with_reducible repeat (first | refine blk_drewN ?_ _ | refine blk_drew ?_ | refine blk_alloc ?_ _)); exact BK200.out) hb); have n1_ := Aside0.mk (blk_below (g := gb201) (o := .cells #[.string a1_0, .string a1_1, .int .i64 a1_2, .int .i64 a1_3, .int .i64 a1_4] 24 (0, 0)) (by (with_reducible repeat (first | refine blk_drewN ?_ _ | refine blk_drew ?_ | refine blk_alloc ?_ _)); refine blk_far ?_ NB201_205.out _; (with_reducible repeat (first | refine blk_drewN ?_ _ | refine blk_drew ?_ | refine blk_alloc ?_ _)); exact BK201.out) hb); have n2_ := Aside0.mk (blk_below (g := gb205) (o := .cells #[.string x206000_51, .string x206001_51, .string x206002_63, .string x206003_63, .int .i64 (-1), .int .i64 ji48, .int .i64 ji49, .int .i64 ji50, .int .i64 ji51] 37 (0, 0)) (by (with_reducible repeat (first | refine blk_drewN ?_ _ | refine blk_drew ?_ | refine blk_alloc ?_ _)); refine blk_put (cs := #[.string x206000_51, .string x206001_51, .string x206002_63, .string x206003_63, .int .i64 a0_4, .int .i64 ji48, .int .i64 ji49, .int .i64 ji50, .int .i64 ji51]) ?_ 4 _ rfl; (with_reducible repeat (first | refine blk_drewN ?_ _ | refine blk_drew ?_ | refine blk_alloc ?_ _)); exact BK205.out) hb); have n3_ := Aside0.mk (below_step (by repeat (first | (with_reducible first | exact HB.out | apply below_alloc | apply pw_below_drewN | apply below_drew1 | refine below_set ?_ GE200.out | refine below_set ?_ GE201.out | refine below_set ?_ GE205.out) | exact HB.out)) hb); clear BK200; clear BK201; clear BK205; clear HB; have BK200 := n0_; have BK201 := n1_; have BK205 := n2_; have HB := n3_; clear n0_ n1_ n2_ n3_; (try clear hb); (try clear hb2); (try clear hk); (try clear hi); have hcz79_0 : w78.cell? ⟨gb205, 0, none⟩ = some (.string x206000_51) := (blk_cell BK205.out 0).trans rfl; have hcz79_1 : w78.cell? ⟨gb205, 1, none⟩ = some (.string x206001_51) := (blk_cell BK205.out 1).trans rfl; have hcz79_2 : w78.cell? ⟨gb205, 2, none⟩ = some (.string x206002_63) := (blk_cell BK205.out 2).trans rfl; have hcz79_3 : w78.cell? ⟨gb205, 3, none⟩ = some (.string x206003_63) := (blk_cell BK205.out 3).trans rfl; have hcz79_4 : w78.cell? ⟨gb205, 4, none⟩ = some (.int .i64 (-1)) := (blk_cell BK205.out 4).trans rfl; have hcz79_5 : w78.cell? ⟨gb205, 5, none⟩ = some (.int .i64 ji48) := (blk_cell BK205.out 5).trans rfl; have hcz79_6 : w78.cell? ⟨gb205, 6, none⟩ = some (.int .i64 ji49) := (blk_cell BK205.out 6).trans rfl; have hcz79_7 : w78.cell? ⟨gb205, 7, none⟩ = some (.int .i64 ji50) := (blk_cell BK205.out 7).trans rfl; have hcz79_8 : w78.cell? ⟨gb205, 8, none⟩ = some (.int .i64 ji51) := (blk_cell BK205.out 8).trans rfl; have hfz79_0 := blk_frozen BK205.out 0; have hfz79_1 := blk_frozen BK205.out 1; have hfz79_2 := blk_frozen BK205.out 2; have hfz79_3 := blk_frozen BK205.out 3; have hfz79_4 := blk_frozen BK205.out 4; have hfz79_5 := blk_frozen BK205.out 5; have hfz79_6 := blk_frozen BK205.out 6; have hfz79_7 := blk_frozen BK205.out 7; have hfz79_8 := blk_frozen BK205.out 8; have hnb80 := NB201_200.out; have hnc80 := NB200_201.out; have hcz81_0 : w78.cell? ⟨gb201, 0, none⟩ = some (.string a1_0) := (blk_cell BK201.out 0).trans rfl; have hcz81_1 : w78.cell? ⟨gb201, 1, none⟩ = some (.string a1_1) := (blk_cell BK201.out 1).trans rfl; have hcz81_2 : w78.cell? ⟨gb201, 2, none⟩ = some (.int .i64 a1_2) := (blk_cell BK201.out 2).trans rfl; have hcz81_3 : w78.cell? ⟨gb201, 3, none⟩ = some (.int .i64 a1_3) := (blk_cell BK201.out 3).trans rfl; have hcz81_4 : w78.cell? ⟨gb201, 4, none⟩ = some (.int .i64 a1_4) := (blk_cell BK201.out 4).trans rfl; have hfz81_0 := blk_frozen BK201.out 0; have hfz81_1 := blk_frozen BK201.out 1; have hfz81_2 := blk_frozen BK201.out 2; have hfz81_3 := blk_frozen BK201.out 3; have hfz81_4 := blk_frozen BK201.out 4) | (go_at_call 14; (with_reducible refine (pick_Matches.calls kj63 x206000_51 x206001_51 x206002_63 x206003_63 (-1) ji48 ji49 ji50 ji51 a1_0 a1_1 a1_2 a1_3 a1_4 true _ A72.out).mono ?_); rintro e w82 ⟨rfl, hb⟩; have n0_ := Aside0.mk (blk_below (g := gb200) (o := .cells #[.string a0_0, .string a0_1, .string a0_2, .string a0_3, .int .i64 a0_4, .int .i64 a0_5, .int .i64 a0_6, .int .i64 a0_7, .int .i64 a0_8] 37 (0, 0)) (by (with_reducible repeat (first | refine blk_drewN ?_ _ | refine blk_drew ?_ | refine blk_alloc ?_ _)); exact BK200.out) hb); have n1_ := Aside0.mk (blk_below (g := gb201) (o := .cells #[.string a1_0, .string a1_1, .int .i64 a1_2, .int .i64 a1_3, .int .i64 a1_4] 24 (0, 0)) (by (with_reducible repeat (first | refine blk_drewN ?_ _ | refine blk_drew ?_ | refine blk_alloc ?_ _)); exact BK201.out) hb); have n2_ := Aside0.mk (blk_below (g := gb205) (o := .cells #[.string x206000_51, .string x206001_51, .string x206002_63, .string x206003_63, .int .i64 (-1), .int .i64 ji48, .int .i64 ji49, .int .i64 ji50, .int .i64 ji51] 37 (0, 0)) (by (with_reducible repeat (first | refine blk_drewN ?_ _ | refine blk_drew ?_ | refine blk_alloc ?_ _)); exact BK205.out) hb); have n3_ := Aside0.mk (below_step (by repeat (first | (with_reducible first | exact HB.out | apply below_alloc | apply pw_below_drewN | apply below_drew1 | refine below_set ?_ GE200.out | refine below_set ?_ GE201.out | refine below_set ?_ GE205.out) | exact HB.out)) hb); clear BK200; clear BK201; clear BK205; clear HB; have BK200 := n0_; have BK201 := n1_; have BK205 := n2_; have HB := n3_; clear n0_ n1_ n2_ n3_; (try clear hb); (try clear hb2); (try clear hk); (try clear hi); have hcz83_0 : w82.cell? ⟨gb205, 0, none⟩ = some (.string x206000_51) := (blk_cell BK205.out 0).trans rfl; have hcz83_1 : w82.cell? ⟨gb205, 1, none⟩ = some (.string x206001_51) := (blk_cell BK205.out 1).trans rfl; have hcz83_2 : w82.cell? ⟨gb205, 2, none⟩ = some (.string x206002_63) := (blk_cell BK205.out 2).trans rfl; have hcz83_3 : w82.cell? ⟨gb205, 3, none⟩ = some (.string x206003_63) := (blk_cell BK205.out 3).trans rfl; have hcz83_4 : w82.cell? ⟨gb205, 4, none⟩ = some (.int .i64 (-1)) := (blk_cell BK205.out 4).trans rfl; have hcz83_5 : w82.cell? ⟨gb205, 5, none⟩ = some (.int .i64 ji48) := (blk_cell BK205.out 5).trans rfl; have hcz83_6 : w82.cell? ⟨gb205, 6, none⟩ = some (.int .i64 ji49) := (blk_cell BK205.out 6).trans rfl; have hcz83_7 : w82.cell? ⟨gb205, 7, none⟩ = some (.int .i64 ji50) := (blk_cell BK205.out 7).trans rfl; have hcz83_8 : w82.cell? ⟨gb205, 8, none⟩ = some (.int .i64 ji51) := (blk_cell BK205.out 8).trans rfl; have hfz83_0 := blk_frozen BK205.out 0; have hfz83_1 := blk_frozen BK205.out 1; have hfz83_2 := blk_frozen BK205.out 2; have hfz83_3 := blk_frozen BK205.out 3; have hfz83_4 := blk_frozen BK205.out 4; have hfz83_5 := blk_frozen BK205.out 5; have hfz83_6 := blk_frozen BK205.out 6; have hfz83_7 := blk_frozen BK205.out 7; have hfz83_8 := blk_frozen BK205.out 8) | (go_at_call 15; (with_reducible refine (pick_Check.calls kj63 x206000_51 x206001_51 x206002_63 x206003_63 (-1) ji48 ji49 ji50 ji51 t208 _ A74.out).mono ?_); rintro e w84 ⟨rfl, hb⟩; have n0_ := Aside0.mk (blk_below (g := gb200) (o := .cells #[.string a0_0, .string a0_1, .string a0_2, .string a0_3, .int .i64 a0_4, .int .i64 a0_5, .int .i64 a0_6, .int .i64 a0_7, .int .i64 a0_8] 37 (0, 0)) (by (with_reducible repeat (first | refine blk_drewN ?_ _ | refine blk_drew ?_ | refine blk_alloc ?_ _)); exact BK200.out) hb); have n1_ := Aside0.mk (blk_below (g := gb201) (o := .cells #[.string a1_0, .string a1_1, .int .i64 a1_2, .int .i64 a1_3, .int .i64 a1_4] 24 (0, 0)) (by (with_reducible repeat (first | refine blk_drewN ?_ _ | refine blk_drew ?_ | refine blk_alloc ?_ _)); exact BK201.out) hb); have n2_ := Aside0.mk (blk_below (g := gb205) (o := .cells #[.string x206000_51, .string x206001_51, .string x206002_63, .string x206003_63, .int .i64 (-1), .int .i64 ji48, .int .i64 ji49, .int .i64 ji50, .int .i64 ji51] 37 (0, 0)) (by (with_reducible repeat (first | refine blk_drewN ?_ _ | refine blk_drew ?_ | refine blk_alloc ?_ _)); exact BK205.out) hb); have n3_ := Aside0.mk (below_step (by repeat (first | (with_reducible first | exact HB.out | apply below_alloc | apply pw_below_drewN | apply below_drew1 | refine below_set ?_ GE200.out | refine below_set ?_ GE201.out | refine below_set ?_ GE205.out) | exact HB.out)) hb); clear BK200; clear BK201; clear BK205; clear HB; have BK200 := n0_; have BK201 := n1_; have BK205 := n2_; have HB := n3_; clear n0_ n1_ n2_ n3_; (try clear hb); (try clear hb2); (try clear hk); (try clear hi)))
                      go_ret
                      exact ⟨by first | rfl | (simp [errW_none, errW_some] <;> rfl) | (simp only [← hji48, ← hji49, ← hji50, ← hji51]; first | rfl | (simp [errW_none, errW_some] <;> rfl)) | (simp [*, errW_none, errW_some] <;> rfl), by repeat (first | (with_reducible first | exact HB.out | apply below_alloc | apply pw_below_drewN | apply below_drew1 | refine below_set ?_ GE200.out | refine below_set ?_ GE201.out | refine below_set ?_ GE205.out) | exact HB.out)⟩
                    · replace c73 := Bool.eq_false_iff.mpr c73
                      subst c73
                      have H1 : (some false) = some r := by rw [if_neg (show ¬ (false = true) by decide)] at H; exact H
                      clear H
                      have H := H1
                      clear H1
                      exact absurd (HRT.out.symm.trans (Option.some.inj H).symm) (by decide)
                  · replace c71 := Bool.eq_false_iff.mpr c71
                    subst c71
                    have H1 : (some false) = some r := by rw [if_neg (show ¬ (false = true) by decide)] at H; exact H
                    clear H
                    have H := H1
                    clear H1
                    exact absurd (HRT.out.symm.trans (Option.some.inj H).symm) (by decide)
                · replace c69 := Bool.eq_false_iff.mpr c69
                  subst c69
                  have H1 : ((redoubtlaw15_awake.f kj63).bind fun t209 => (if t209 = true then ((pick_Matches.f kj63 x206000_51 x206001_51 x206002_63 x206003_63 a0_4 ji48 ji49 ji50 ji51 a1_0 a1_1 a1_2 a1_3 a1_4).bind fun t210 => (if t210 = true then ((pick_Check.f kj63 x206000_51 x206001_51 x206002_63 x206003_63 a0_4 ji48 ji49 ji50 ji51).bind fun t211 => (some (t211 == 0))) else (some false))) else (some false))) = some r := by rw [if_neg (show ¬ (false = true) by decide)] at H; exact H
                  clear H
                  have H := H1
                  clear H1
                  replace H := Option.bind_eq_some_iff.mp H
                  obtain ⟨t209, A970, H⟩ := H
                  replace H : (if t209 = true then ((pick_Matches.f kj63 x206000_51 x206001_51 x206002_63 x206003_63 a0_4 ji48 ji49 ji50 ji51 a1_0 a1_1 a1_2 a1_3 a1_4).bind fun t210 => (if t210 = true then ((pick_Check.f kj63 x206000_51 x206001_51 x206002_63 x206003_63 a0_4 ji48 ji49 ji50 ji51).bind fun t211 => (some (t211 == 0))) else (some false))) else (some false)) = some r := H
                  have A97 := Aside0.mk A970
                  clear A970
                  by_cases c98 : t209 = true
                  · subst c98
                    have H1 : ((pick_Matches.f kj63 x206000_51 x206001_51 x206002_63 x206003_63 a0_4 ji48 ji49 ji50 ji51 a1_0 a1_1 a1_2 a1_3 a1_4).bind fun t210 => (if t210 = true then ((pick_Check.f kj63 x206000_51 x206001_51 x206002_63 x206003_63 a0_4 ji48 ji49 ji50 ji51).bind fun t211 => (some (t211 == 0))) else (some false))) = some r := by rw [if_pos rfl] at H; exact H
                    clear H
                    have H := H1
                    clear H1
                    replace H := Option.bind_eq_some_iff.mp H
                    obtain ⟨t210, A990, H⟩ := H
                    replace H : (if t210 = true then ((pick_Check.f kj63 x206000_51 x206001_51 x206002_63 x206003_63 a0_4 ji48 ji49 ji50 ji51).bind fun t211 => (some (t211 == 0))) else (some false)) = some r := H
                    have A99 := Aside0.mk A990
                    clear A990
                    by_cases c100 : t210 = true
                    · subst c100
                      have H1 : ((pick_Check.f kj63 x206000_51 x206001_51 x206002_63 x206003_63 a0_4 ji48 ji49 ji50 ji51).bind fun t211 => (some (t211 == 0))) = some r := by rw [if_pos rfl] at H; exact H
                      clear H
                      have H := H1
                      clear H1
                      replace H := Option.bind_eq_some_iff.mp H
                      obtain ⟨t211, A1010, H⟩ := H
                      replace H : (some (t211 == 0)) = some r := H
                      have A101 := Aside0.mk A1010
                      clear A1010
                      obtain rfl := Option.some.inj H
                      go_wp2_with (first | ((with_reducible refine gate_callee (f := 10) rfl ?_); refine goesL_ (some 80) rfl rfl Try.func10 (by kernel_rfl) rfl #[] rfl (by (try simp only [List.map_toArray, List.map_cons, List.map_nil]); first | done | rfl | (simp only [List.length_drop, List.length_take]; rfl)) ?_; (with_reducible refine (redoubtlaw15_awake.calls kj63  true _ A97.out (by first | rfl | exact HRT.out)).mono ?_); rintro e w102 ⟨rfl, hb⟩; refine ⟨_, rfl, ?_⟩; have n0_ := Aside0.mk (blk_below (g := gb200) (o := .cells #[.string a0_0, .string a0_1, .string a0_2, .string a0_3, .int .i64 a0_4, .int .i64 a0_5, .int .i64 a0_6, .int .i64 a0_7, .int .i64 a0_8] 37 (0, 0)) (by (with_reducible repeat (first | refine blk_drewN ?_ _ | refine blk_drew ?_ | refine blk_alloc ?_ _)); exact BK200.out) hb); have n1_ := Aside0.mk (blk_below (g := gb201) (o := .cells #[.string a1_0, .string a1_1, .int .i64 a1_2, .int .i64 a1_3, .int .i64 a1_4] 24 (0, 0)) (by (with_reducible repeat (first | refine blk_drewN ?_ _ | refine blk_drew ?_ | refine blk_alloc ?_ _)); exact BK201.out) hb); have n2_ := Aside0.mk (blk_below (g := gb205) (o := .cells #[.string x206000_51, .string x206001_51, .string x206002_63, .string x206003_63, .int .i64 a0_4, .int .i64 ji48, .int .i64 ji49, .int .i64 ji50, .int .i64 ji51] 37 (0, 0)) (by (with_reducible repeat (first | refine blk_drewN ?_ _ | refine blk_drew ?_ | refine blk_alloc ?_ _)); exact BK205.out) hb); have n3_ := Aside0.mk (below_step (by repeat (first | (with_reducible first | exact HB.out | apply below_alloc | apply pw_below_drewN | apply below_drew1 | refine below_set ?_ GE200.out | refine below_set ?_ GE201.out | refine below_set ?_ GE205.out) | exact HB.out)) hb); clear BK200; clear BK201; clear BK205; clear HB; have BK200 := n0_; have BK201 := n1_; have BK205 := n2_; have HB := n3_; clear n0_ n1_ n2_ n3_; (try clear hb); (try clear hb2); (try clear hk); (try clear hi); have hnb103 := NB205_200.out; have hnc103 := NB200_205.out; have hnb104 := NB205_201.out; have hnc104 := NB201_205.out; have hcz105_0 : w102.cell? ⟨gb205, 0, none⟩ = some (.string x206000_51) := (blk_cell BK205.out 0).trans rfl; have hcz105_1 : w102.cell? ⟨gb205, 1, none⟩ = some (.string x206001_51) := (blk_cell BK205.out 1).trans rfl; have hcz105_2 : w102.cell? ⟨gb205, 2, none⟩ = some (.string x206002_63) := (blk_cell BK205.out 2).trans rfl; have hcz105_3 : w102.cell? ⟨gb205, 3, none⟩ = some (.string x206003_63) := (blk_cell BK205.out 3).trans rfl; have hcz105_4 : w102.cell? ⟨gb205, 4, none⟩ = some (.int .i64 a0_4) := (blk_cell BK205.out 4).trans rfl; have hcz105_5 : w102.cell? ⟨gb205, 5, none⟩ = some (.int .i64 ji48) := (blk_cell BK205.out 5).trans rfl; have hcz105_6 : w102.cell? ⟨gb205, 6, none⟩ = some (.int .i64 ji49) := (blk_cell BK205.out 6).trans rfl; have hcz105_7 : w102.cell? ⟨gb205, 7, none⟩ = some (.int .i64 ji50) := (blk_cell BK205.out 7).trans rfl; have hcz105_8 : w102.cell? ⟨gb205, 8, none⟩ = some (.int .i64 ji51) := (blk_cell BK205.out 8).trans rfl; have hfz105_0 := blk_frozen BK205.out 0; have hfz105_1 := blk_frozen BK205.out 1; have hfz105_2 := blk_frozen BK205.out 2; have hfz105_3 := blk_frozen BK205.out 3; have hfz105_4 := blk_frozen BK205.out 4; have hfz105_5 := blk_frozen BK205.out 5; have hfz105_6 := blk_frozen BK205.out 6; have hfz105_7 := blk_frozen BK205.out 7; have hfz105_8 := blk_frozen BK205.out 8; have hnb106 := NB201_200.out; have hnc106 := NB200_201.out; have hcz107_0 : w102.cell? ⟨gb201, 0, none⟩ = some (.string a1_0) := (blk_cell BK201.out 0).trans rfl; have hcz107_1 : w102.cell? ⟨gb201, 1, none⟩ = some (.string a1_1) := (blk_cell BK201.out 1).trans rfl; have hcz107_2 : w102.cell? ⟨gb201, 2, none⟩ = some (.int .i64 a1_2) := (blk_cell BK201.out 2).trans rfl; have hcz107_3 : w102.cell? ⟨gb201, 3, none⟩ = some (.int .i64 a1_3) := (blk_cell BK201.out 3).trans rfl; have hcz107_4 : w102.cell? ⟨gb201, 4, none⟩ = some (.int .i64 a1_4) := (blk_cell BK201.out 4).trans rfl; have hfz107_0 := blk_frozen BK201.out 0; have hfz107_1 := blk_frozen BK201.out 1; have hfz107_2 := blk_frozen BK201.out 2; have hfz107_3 := blk_frozen BK201.out 3; have hfz107_4 := blk_frozen BK201.out 4) | (go_at_call 14; (with_reducible refine (pick_Matches.calls kj63 x206000_51 x206001_51 x206002_63 x206003_63 a0_4 ji48 ji49 ji50 ji51 a1_0 a1_1 a1_2 a1_3 a1_4 true _ A99.out).mono ?_); rintro e w108 ⟨rfl, hb⟩; have n0_ := Aside0.mk (blk_below (g := gb200) (o := .cells #[.string a0_0, .string a0_1, .string a0_2, .string a0_3, .int .i64 a0_4, .int .i64 a0_5, .int .i64 a0_6, .int .i64 a0_7, .int .i64 a0_8] 37 (0, 0)) (by (with_reducible repeat (first | refine blk_drewN ?_ _ | refine blk_drew ?_ | refine blk_alloc ?_ _)); exact BK200.out) hb); have n1_ := Aside0.mk (blk_below (g := gb201) (o := .cells #[.string a1_0, .string a1_1, .int .i64 a1_2, .int .i64 a1_3, .int .i64 a1_4] 24 (0, 0)) (by (with_reducible repeat (first | refine blk_drewN ?_ _ | refine blk_drew ?_ | refine blk_alloc ?_ _)); exact BK201.out) hb); have n2_ := Aside0.mk (blk_below (g := gb205) (o := .cells #[.string x206000_51, .string x206001_51, .string x206002_63, .string x206003_63, .int .i64 a0_4, .int .i64 ji48, .int .i64 ji49, .int .i64 ji50, .int .i64 ji51] 37 (0, 0)) (by (with_reducible repeat (first | refine blk_drewN ?_ _ | refine blk_drew ?_ | refine blk_alloc ?_ _)); exact BK205.out) hb); have n3_ := Aside0.mk (below_step (by repeat (first | (with_reducible first | exact HB.out | apply below_alloc | apply pw_below_drewN | apply below_drew1 | refine below_set ?_ GE200.out | refine below_set ?_ GE201.out | refine below_set ?_ GE205.out) | exact HB.out)) hb); clear BK200; clear BK201; clear BK205; clear HB; have BK200 := n0_; have BK201 := n1_; have BK205 := n2_; have HB := n3_; clear n0_ n1_ n2_ n3_; (try clear hb); (try clear hb2); (try clear hk); (try clear hi); have hcz109_0 : w108.cell? ⟨gb205, 0, none⟩ = some (.string x206000_51) := (blk_cell BK205.out 0).trans rfl; have hcz109_1 : w108.cell? ⟨gb205, 1, none⟩ = some (.string x206001_51) := (blk_cell BK205.out 1).trans rfl; have hcz109_2 : w108.cell? ⟨gb205, 2, none⟩ = some (.string x206002_63) := (blk_cell BK205.out 2).trans rfl; have hcz109_3 : w108.cell? ⟨gb205, 3, none⟩ = some (.string x206003_63) := (blk_cell BK205.out 3).trans rfl; have hcz109_4 : w108.cell? ⟨gb205, 4, none⟩ = some (.int .i64 a0_4) := (blk_cell BK205.out 4).trans rfl; have hcz109_5 : w108.cell? ⟨gb205, 5, none⟩ = some (.int .i64 ji48) := (blk_cell BK205.out 5).trans rfl; have hcz109_6 : w108.cell? ⟨gb205, 6, none⟩ = some (.int .i64 ji49) := (blk_cell BK205.out 6).trans rfl; have hcz109_7 : w108.cell? ⟨gb205, 7, none⟩ = some (.int .i64 ji50) := (blk_cell BK205.out 7).trans rfl; have hcz109_8 : w108.cell? ⟨gb205, 8, none⟩ = some (.int .i64 ji51) := (blk_cell BK205.out 8).trans rfl; have hfz109_0 := blk_frozen BK205.out 0; have hfz109_1 := blk_frozen BK205.out 1; have hfz109_2 := blk_frozen BK205.out 2; have hfz109_3 := blk_frozen BK205.out 3; have hfz109_4 := blk_frozen BK205.out 4; have hfz109_5 := blk_frozen BK205.out 5; have hfz109_6 := blk_frozen BK205.out 6; have hfz109_7 := blk_frozen BK205.out 7; have hfz109_8 := blk_frozen BK205.out 8) | (go_at_call 15; (with_reducible refine (pick_Check.calls kj63 x206000_51 x206001_51 x206002_63 x206003_63 a0_4 ji48 ji49 ji50 ji51 t211 _ A101.out).mono ?_); rintro e w110 ⟨rfl, hb⟩; have n0_ := Aside0.mk (blk_below (g := gb200) (o := .cells #[.string a0_0, .string a0_1, .string a0_2, .string a0_3, .int .i64 a0_4, .int .i64 a0_5, .int .i64 a0_6, .int .i64 a0_7, .int .i64 a0_8] 37 (0, 0)) (by (with_reducible repeat (first | refine blk_drewN ?_ _ | refine blk_drew ?_ | refine blk_alloc ?_ _)); exact BK200.out) hb); have n1_ := Aside0.mk (blk_below (g := gb201) (o := .cells #[.string a1_0, .string a1_1, .int .i64 a1_2, .int .i64 a1_3, .int .i64 a1_4] 24 (0, 0)) (by (with_reducible repeat (first | refine blk_drewN ?_ _ | refine blk_drew ?_ | refine blk_alloc ?_ _)); exact BK201.out) hb); have n2_ := Aside0.mk (blk_below (g := gb205) (o := .cells #[.string x206000_51, .string x206001_51, .string x206002_63, .string x206003_63, .int .i64 a0_4, .int .i64 ji48, .int .i64 ji49, .int .i64 ji50, .int .i64 ji51] 37 (0, 0)) (by (with_reducible repeat (first | refine blk_drewN ?_ _ | refine blk_drew ?_ | refine blk_alloc ?_ _)); exact BK205.out) hb); have n3_ := Aside0.mk (below_step (by repeat (first | (with_reducible first | exact HB.out | apply below_alloc | apply pw_below_drewN | apply below_drew1 | refine below_set ?_ GE200.out | refine below_set ?_ GE201.out | refine below_set ?_ GE205.out) | exact HB.out)) hb); clear BK200; clear BK201; clear BK205; clear HB; have BK200 := n0_; have BK201 := n1_; have BK205 := n2_; have HB := n3_; clear n0_ n1_ n2_ n3_; (try clear hb); (try clear hb2); (try clear hk); (try clear hi)))
                      go_ret
                      exact ⟨by first | rfl | (simp [errW_none, errW_some] <;> rfl) | (simp only [← hji48, ← hji49, ← hji50, ← hji51]; first | rfl | (simp [errW_none, errW_some] <;> rfl)) | (simp [*, errW_none, errW_some] <;> rfl), by repeat (first | (with_reducible first | exact HB.out | apply below_alloc | apply pw_below_drewN | apply below_drew1 | refine below_set ?_ GE200.out | refine below_set ?_ GE201.out | refine below_set ?_ GE205.out) | exact HB.out)⟩
                    · replace c100 := Bool.eq_false_iff.mpr c100
                      subst c100
                      have H1 : (some false) = some r := by rw [if_neg (show ¬ (false = true) by decide)] at H; exact H
                      clear H
                      have H := H1
                      clear H1
                      exact absurd (HRT.out.symm.trans (Option.some.inj H).symm) (by decide)
                  · replace c98 := Bool.eq_false_iff.mpr c98
                    subst c98
                    have H1 : (some false) = some r := by rw [if_neg (show ¬ (false = true) by decide)] at H; exact H
                    clear H
                    have H := H1
                    clear H1
                    exact absurd (HRT.out.symm.trans (Option.some.inj H).symm) (by decide)
end Go.Proofs.Ytcohcbfodmoblaa.QPk

-- Written by a program of this session (wip/tools/pp.py) out of what the kit's print.py prints over this seat's translation. Not trusted: Lean checks it.
import Derived.Test.YtcohcbfodmoblaaQPkx0
import Derived.Test.YtcohcbfodmoblaaQPkx14
import Derived.Test.YtcohcbfodmoblaaQPkx18
import Derived.Test.YtcohcbfodmoblaaQPkx19
import Derived.Test.YtcohcbfodmoblaaQPkx20
import Derived.Test.YtcohcbfodmoblaaQPkx21
namespace Go.Proofs.Ytcohcbfodmoblaa.QPk
open Go.RowKit Go.Proofs.YtcohcbfodmoblaaW.PrintWords Go.Proofs.YtcohcbfodmoblaaW.PrintLast Go.Proofs.YtcohcbfodmoblaaW.PrintMore
attribute [local go_sem] max2_int min2_int max_two min_two max_three min_three max_four min_four   -- for this text's walks alone
set_option linter.unusedVariables false
set_option linter.unusedSimpArgs false

/-! ### redoubtlaw15_PickNone: function 6 -/
mutual
def redoubtlaw15_PickNone.j0 : Nat → Bool → ByteArray → ByteArray → ByteArray → ByteArray → Int → Int → Int → Int → Int → ByteArray → ByteArray → Int → Int → Int → Option (Bool)
  | 0, _, _, _, _, _, _, _, _, _, _, _, _, _, _, _ => none
  | k + 1, x61, x254000, x254001, x254002, x254003, x254004, x254005, x254006, x254007, x254008, x255000, x255001, x255002, x255003, x255004 => if x61 = true then (some true) else ((pick_Check.f k x254000 x254001 x254002 x254003 x254004 x254005 x254006 x254007 x254008).bind fun t256 => (if t256 = 0 then (redoubtlaw15_PickNone.j1 k false x255000 x255001 x255002 x255003 x255004) else ((pick_Matches.f k x254000 x254001 x254002 x254003 x254004 x254005 x254006 x254007 x254008 x255000 x255001 x255002 x255003 x255004).bind fun t257 => (redoubtlaw15_PickNone.j1 k t257 x255000 x255001 x255002 x255003 x255004))))
def redoubtlaw15_PickNone.j1 : Nat → Bool → ByteArray → ByteArray → Int → Int → Int → Option (Bool)
  | 0, _, _, _, _, _, _ => none
  | k + 1, x69, x255000, x255001, x255002, x255003, x255004 => if x69 = true then (some false) else ((redoubtlaw15_every.f).bind fun bt258 => ((pick_Matches.f k bt258.1 bt258.2.1 bt258.2.2.1 bt258.2.2.2.1 bt258.2.2.2.2.1 bt258.2.2.2.2.2.1 bt258.2.2.2.2.2.2.1 bt258.2.2.2.2.2.2.2.1 bt258.2.2.2.2.2.2.2.2 x255000 x255001 x255002 x255003 x255004).bind fun t268 => (if t268 = true then (if x255003 ≥ 0 then (redoubtlaw15_PickNone.j2 k x255000 x255001 x255002 x255003 x255004 x255000 x255000 x255001 x255001 x255002 x255003 x255003 bt258.2.2.2.2.2.2.2.1 bt258.2.2.2.2.2.2.2.2) else (redoubtlaw15_PickNone.j2 k x255000 x255001 x255002 x255003 x255004 x255000 x255000 x255001 x255001 x255002 bt258.2.2.2.2.2.1 bt258.2.2.2.2.2.2.1 bt258.2.2.2.2.2.2.2.1 bt258.2.2.2.2.2.2.2.2)) else (some false))))
def redoubtlaw15_PickNone.j2 : Nat → ByteArray → ByteArray → Int → Int → Int → ByteArray → ByteArray → ByteArray → ByteArray → Int → Int → Int → Int → Int → Option (Bool)
  | 0, _, _, _, _, _, _, _, _, _, _, _, _, _, _ => none
  | k + 1, x255000, x255001, x255002, x255003, x255004, x268000, x268001, x268002, x268003, x268004, x268005, x268006, x268007, x268008 => if x255004 ≥ 0 then ((redoubtlaw15_awake.f k).bind fun t270 => (if t270 = true then ((pick_Matches.f k x268000 x268001 x268002 x268003 x268004 x268005 x268006 x255004 x255004 x255000 x255001 x255002 x255003 x255004).bind fun t271 => (if t271 = true then ((pick_Matches.f k x268000 x268001 x268002 x268003 x268004 x268005 x268006 x255004 x255004 x255000 x255001 (Int.tmod (wrap64 (x255002 + 1)) 256) x255003 x255004).bind fun t272 => (some (!t272))) else (some false))) else (some false))) else ((redoubtlaw15_awake.f k).bind fun t274 => (if t274 = true then ((pick_Matches.f k x268000 x268001 x268002 x268003 x268004 x268005 x268006 x268007 x268008 x255000 x255001 x255002 x255003 x255004).bind fun t275 => (if t275 = true then ((pick_Matches.f k x268000 x268001 x268002 x268003 x268004 x268005 x268006 x268007 x268008 x255000 x255001 (Int.tmod (wrap64 (x255002 + 1)) 256) x255003 x255004).bind fun t276 => (some (!t276))) else (some false))) else (some false)))
end
def redoubtlaw15_PickNone.f (k : Nat) (a0_0 : ByteArray) (a0_1 : ByteArray) (a0_2 : ByteArray) (a0_3 : ByteArray) (a0_4 : Int) (a0_5 : Int) (a0_6 : Int) (a0_7 : Int) (a0_8 : Int) (a1_0 : ByteArray) (a1_1 : ByteArray) (a1_2 : Int) (a1_3 : Int) (a1_4 : Int) : Option (Bool) := (redoubtlaw15_few.f a0_0 a0_1 a0_2 a0_3 a0_4 a0_5 a0_6 a0_7 a0_8 a1_0 a1_1 a1_2 a1_3 a1_4).bind fun t255 => (if t255 = true then (if (a1_0.size : Int) = (a1_1.size : Int) then (if (a1_0.size : Int) = 4 then (if a1_2 < 0 then (redoubtlaw15_PickNone.j0 k true a0_0 a0_1 a0_2 a0_3 a0_4 a0_5 a0_6 a0_7 a0_8 a1_0 a1_1 a1_2 a1_3 a1_4) else (if a1_2 > 255 then (redoubtlaw15_PickNone.j0 k true a0_0 a0_1 a0_2 a0_3 a0_4 a0_5 a0_6 a0_7 a0_8 a1_0 a1_1 a1_2 a1_3 a1_4) else (if a1_3 < (-1) then (redoubtlaw15_PickNone.j0 k true a0_0 a0_1 a0_2 a0_3 a0_4 a0_5 a0_6 a0_7 a0_8 a1_0 a1_1 a1_2 a1_3 a1_4) else (if a1_3 > 65535 then (redoubtlaw15_PickNone.j0 k true a0_0 a0_1 a0_2 a0_3 a0_4 a0_5 a0_6 a0_7 a0_8 a1_0 a1_1 a1_2 a1_3 a1_4) else (if a1_4 < (-1) then (redoubtlaw15_PickNone.j0 k true a0_0 a0_1 a0_2 a0_3 a0_4 a0_5 a0_6 a0_7 a0_8 a1_0 a1_1 a1_2 a1_3 a1_4) else (redoubtlaw15_PickNone.j0 k (decide (a1_4 > 65535)) a0_0 a0_1 a0_2 a0_3 a0_4 a0_5 a0_6 a0_7 a0_8 a1_0 a1_1 a1_2 a1_3 a1_4)))))) else (if (a1_0.size : Int) = 16 then (if a1_2 < 0 then (redoubtlaw15_PickNone.j0 k true a0_0 a0_1 a0_2 a0_3 a0_4 a0_5 a0_6 a0_7 a0_8 a1_0 a1_1 a1_2 a1_3 a1_4) else (if a1_2 > 255 then (redoubtlaw15_PickNone.j0 k true a0_0 a0_1 a0_2 a0_3 a0_4 a0_5 a0_6 a0_7 a0_8 a1_0 a1_1 a1_2 a1_3 a1_4) else (if a1_3 < (-1) then (redoubtlaw15_PickNone.j0 k true a0_0 a0_1 a0_2 a0_3 a0_4 a0_5 a0_6 a0_7 a0_8 a1_0 a1_1 a1_2 a1_3 a1_4) else (if a1_3 > 65535 then (redoubtlaw15_PickNone.j0 k true a0_0 a0_1 a0_2 a0_3 a0_4 a0_5 a0_6 a0_7 a0_8 a1_0 a1_1 a1_2 a1_3 a1_4) else (if a1_4 < (-1) then (redoubtlaw15_PickNone.j0 k true a0_0 a0_1 a0_2 a0_3 a0_4 a0_5 a0_6 a0_7 a0_8 a1_0 a1_1 a1_2 a1_3 a1_4) else (redoubtlaw15_PickNone.j0 k (decide (a1_4 > 65535)) a0_0 a0_1 a0_2 a0_3 a0_4 a0_5 a0_6 a0_7 a0_8 a1_0 a1_1 a1_2 a1_3 a1_4)))))) else (redoubtlaw15_PickNone.j0 k true a0_0 a0_1 a0_2 a0_3 a0_4 a0_5 a0_6 a0_7 a0_8 a1_0 a1_1 a1_2 a1_3 a1_4))) else (redoubtlaw15_PickNone.j0 k true a0_0 a0_1 a0_2 a0_3 a0_4 a0_5 a0_6 a0_7 a0_8 a1_0 a1_1 a1_2 a1_3 a1_4)) else (redoubtlaw15_PickNone.j0 k true a0_0 a0_1 a0_2 a0_3 a0_4 a0_5 a0_6 a0_7 a0_8 a1_0 a1_1 a1_2 a1_3 a1_4))
theorem redoubtlaw15_PickNone.mono_l : ∀ k, (∀ y0 y1 y2 y3 y4 y5 y6 y7 y8 y9 y10 y11 y12 y13 y14, LeO (redoubtlaw15_PickNone.j0 k y0 y1 y2 y3 y4 y5 y6 y7 y8 y9 y10 y11 y12 y13 y14) (redoubtlaw15_PickNone.j0 (k + 1) y0 y1 y2 y3 y4 y5 y6 y7 y8 y9 y10 y11 y12 y13 y14)) ∧ (∀ y0 y1 y2 y3 y4 y5, LeO (redoubtlaw15_PickNone.j1 k y0 y1 y2 y3 y4 y5) (redoubtlaw15_PickNone.j1 (k + 1) y0 y1 y2 y3 y4 y5)) ∧ (∀ y0 y1 y2 y3 y4 y5 y6 y7 y8 y9 y10 y11 y12 y13, LeO (redoubtlaw15_PickNone.j2 k y0 y1 y2 y3 y4 y5 y6 y7 y8 y9 y10 y11 y12 y13) (redoubtlaw15_PickNone.j2 (k + 1) y0 y1 y2 y3 y4 y5 y6 y7 y8 y9 y10 y11 y12 y13))
  | 0 => ⟨fun _ _ _ _ _ _ _ _ _ _ _ _ _ _ _ r h => by simp [redoubtlaw15_PickNone.j0] at h, fun _ _ _ _ _ _ r h => by simp [redoubtlaw15_PickNone.j1] at h, fun _ _ _ _ _ _ _ _ _ _ _ _ _ _ r h => by simp [redoubtlaw15_PickNone.j2] at h⟩
  | k + 1 => by
    obtain ⟨ih0, ih1, ih2⟩ := redoubtlaw15_PickNone.mono_l k
    refine ⟨?_, ?_, ?_⟩
    · intro y0 y1 y2 y3 y4 y5 y6 y7 y8 y9 y10 y11 y12 y13 y14
      unfold redoubtlaw15_PickNone.j0
      repeat' first
      | (with_reducible exact ih0 _ _ _ _ _ _ _ _ _ _ _ _ _ _ _)
      | (with_reducible exact ih1 _ _ _ _ _ _)
      | (with_reducible exact ih2 _ _ _ _ _ _ _ _ _ _ _ _ _ _)
      | (with_reducible exact pick_Check.mono _ _ _ _ _ _ _ _ _ _)
      | (with_reducible exact pick_Matches.mono _ _ _ _ _ _ _ _ _ _ _ _ _ _ _)
      | (with_reducible exact redoubtlaw15_awake.mono _)
      | (with_reducible exact LeO.refl _)
      | (with_reducible exact LeO.none _)
      | (with_reducible refine LeO.ite ?_ ?_)
      | (with_reducible refine LeO.bind ?_ (fun _ => ?_))
      | exact ih0 _ _ _ _ _ _ _ _ _ _ _ _ _ _ _
      | exact ih1 _ _ _ _ _ _
      | exact ih2 _ _ _ _ _ _ _ _ _ _ _ _ _ _
      | exact pick_Check.mono _ _ _ _ _ _ _ _ _ _
      | exact pick_Matches.mono _ _ _ _ _ _ _ _ _ _ _ _ _ _ _
      | exact redoubtlaw15_awake.mono _
      | exact LeO.none _
      | refine LeO.ite ?_ ?_
      | refine LeO.bind ?_ (fun _ => ?_)
    · intro y0 y1 y2 y3 y4 y5
      unfold redoubtlaw15_PickNone.j1
      repeat' first
      | (with_reducible exact ih0 _ _ _ _ _ _ _ _ _ _ _ _ _ _ _)
      | (with_reducible exact ih1 _ _ _ _ _ _)
      | (with_reducible exact ih2 _ _ _ _ _ _ _ _ _ _ _ _ _ _)
      | (with_reducible exact pick_Check.mono _ _ _ _ _ _ _ _ _ _)
      | (with_reducible exact pick_Matches.mono _ _ _ _ _ _ _ _ _ _ _ _ _ _ _)
      | (with_reducible exact redoubtlaw15_awake.mono _)
      | (with_reducible exact LeO.refl _)
      | (with_reducible exact LeO.none _)
      | (with_reducible refine LeO.ite ?_ ?_)
      | (with_reducible refine LeO.bind ?_ (fun _ => ?_))
      | exact ih0 _ _ _ _ _ _ _ _ _ _ _ _ _ _ _
      | exact ih1 _ _ _ _ _ _
      | exact ih2 _ _ _ _ _ _ _ _ _ _ _ _ _ _
      | exact pick_Check.mono _ _ _ _ _ _ _ _ _ _
      | exact pick_Matches.mono _ _ _ _ _ _ _ _ _ _ _ _ _ _ _
      | exact redoubtlaw15_awake.mono _
      | exact LeO.none _
      | refine LeO.ite ?_ ?_
      | refine LeO.bind ?_ (fun _ => ?_)
    · intro y0 y1 y2 y3 y4 y5 y6 y7 y8 y9 y10 y11 y12 y13
      unfold redoubtlaw15_PickNone.j2
      repeat' first
      | (with_reducible exact ih0 _ _ _ _ _ _ _ _ _ _ _ _ _ _ _)
      | (with_reducible exact ih1 _ _ _ _ _ _)
      | (with_reducible exact ih2 _ _ _ _ _ _ _ _ _ _ _ _ _ _)
      | (with_reducible exact pick_Check.mono _ _ _ _ _ _ _ _ _ _)
      | (with_reducible exact pick_Matches.mono _ _ _ _ _ _ _ _ _ _ _ _ _ _ _)
      | (with_reducible exact redoubtlaw15_awake.mono _)
      | (with_reducible exact LeO.refl _)
      | (with_reducible exact LeO.none _)
      | (with_reducible refine LeO.ite ?_ ?_)
      | (with_reducible refine LeO.bind ?_ (fun _ => ?_))
      | exact ih0 _ _ _ _ _ _ _ _ _ _ _ _ _ _ _
      | exact ih1 _ _ _ _ _ _
      | exact ih2 _ _ _ _ _ _ _ _ _ _ _ _ _ _
      | exact pick_Check.mono _ _ _ _ _ _ _ _ _ _
      | exact pick_Matches.mono _ _ _ _ _ _ _ _ _ _ _ _ _ _ _
      | exact redoubtlaw15_awake.mono _
      | exact LeO.none _
      | refine LeO.ite ?_ ?_
      | refine LeO.bind ?_ (fun _ => ?_)
theorem redoubtlaw15_PickNone.mono : ∀ a0 a1 a2 a3 a4 a5 a6 a7 a8 a9 a10 a11 a12 a13 k, LeO (redoubtlaw15_PickNone.f k a0 a1 a2 a3 a4 a5 a6 a7 a8 a9 a10 a11 a12 a13) (redoubtlaw15_PickNone.f (k + 1) a0 a1 a2 a3 a4 a5 a6 a7 a8 a9 a10 a11 a12 a13) := by
  intro a0 a1 a2 a3 a4 a5 a6 a7 a8 a9 a10 a11 a12 a13 k
  obtain ⟨ih0, ih1, ih2⟩ := redoubtlaw15_PickNone.mono_l k
  unfold redoubtlaw15_PickNone.f
  repeat' first
      | (with_reducible exact ih0 _ _ _ _ _ _ _ _ _ _ _ _ _ _ _)
      | (with_reducible exact ih1 _ _ _ _ _ _)
      | (with_reducible exact ih2 _ _ _ _ _ _ _ _ _ _ _ _ _ _)
      | (with_reducible exact pick_Check.mono _ _ _ _ _ _ _ _ _ _)
      | (with_reducible exact pick_Matches.mono _ _ _ _ _ _ _ _ _ _ _ _ _ _ _)
      | (with_reducible exact redoubtlaw15_awake.mono _)
      | (with_reducible exact LeO.refl _)
      | (with_reducible exact LeO.none _)
      | (with_reducible refine LeO.ite ?_ ?_)
      | (with_reducible refine LeO.bind ?_ (fun _ => ?_))
      | exact ih0 _ _ _ _ _ _ _ _ _ _ _ _ _ _ _
      | exact ih1 _ _ _ _ _ _
      | exact ih2 _ _ _ _ _ _ _ _ _ _ _ _ _ _
      | exact pick_Check.mono _ _ _ _ _ _ _ _ _ _
      | exact pick_Matches.mono _ _ _ _ _ _ _ _ _ _ _ _ _ _ _
      | exact redoubtlaw15_awake.mono _
      | exact LeO.none _
      | refine LeO.ite ?_ ?_
      | refine LeO.bind ?_ (fun _ => ?_)
set_option maxHeartbeats 8000000 in
set_option maxRecDepth 100000 in
theorem redoubtlaw15_PickNone.calls (k : Nat) (a0_0 : ByteArray) (a0_1 : ByteArray) (a0_2 : ByteArray) (a0_3 : ByteArray) (a0_4 : Int) (a0_5 : Int) (a0_6 : Int) (a0_7 : Int) (a0_8 : Int) (a1_0 : ByteArray) (a1_1 : ByteArray) (a1_2 : Int) (a1_3 : Int) (a1_4 : Int) (r : Bool) (w : World) (h : redoubtlaw15_PickNone.f k a0_0 a0_1 a0_2 a0_3 a0_4 a0_5 a0_6 a0_7 a0_8 a1_0 a1_1 a1_2 a1_3 a1_4 = some r) (hr_ : r = true) :
    Calls Try.prog 6 #[.agg #[.string a0_0, .string a0_1, .string a0_2, .string a0_3, .int .i64 a0_4, .int .i64 a0_5, .int .i64 a0_6, .int .i64 a0_7, .int .i64 a0_8], .agg #[.string a1_0, .string a1_1, .int .i64 a1_2, .int .i64 a1_3, .int .i64 a1_4]] w fun e w' => e = .returned (.bool r) ∧ Below w.heap.size w w' := by
  have HRT := Aside0.mk hr_
  clear hr_
  have hu37 := Try.underlying37
  have hu24 := Try.underlying24
  have hu33 := Try.underlying33
  have hu35 := Try.underlying35
  have HB := Aside0.mk (Below.refl w.heap.size w)
  have H : ((redoubtlaw15_few.f a0_0 a0_1 a0_2 a0_3 a0_4 a0_5 a0_6 a0_7 a0_8 a1_0 a1_1 a1_2 a1_3 a1_4).bind fun t255 => (if t255 = true then (if (a1_0.size : Int) = (a1_1.size : Int) then (if (a1_0.size : Int) = 4 then (if a1_2 < 0 then (redoubtlaw15_PickNone.j0 k true a0_0 a0_1 a0_2 a0_3 a0_4 a0_5 a0_6 a0_7 a0_8 a1_0 a1_1 a1_2 a1_3 a1_4) else (if a1_2 > 255 then (redoubtlaw15_PickNone.j0 k true a0_0 a0_1 a0_2 a0_3 a0_4 a0_5 a0_6 a0_7 a0_8 a1_0 a1_1 a1_2 a1_3 a1_4) else (if a1_3 < (-1) then (redoubtlaw15_PickNone.j0 k true a0_0 a0_1 a0_2 a0_3 a0_4 a0_5 a0_6 a0_7 a0_8 a1_0 a1_1 a1_2 a1_3 a1_4) else (if a1_3 > 65535 then (redoubtlaw15_PickNone.j0 k true a0_0 a0_1 a0_2 a0_3 a0_4 a0_5 a0_6 a0_7 a0_8 a1_0 a1_1 a1_2 a1_3 a1_4) else (if a1_4 < (-1) then (redoubtlaw15_PickNone.j0 k true a0_0 a0_1 a0_2 a0_3 a0_4 a0_5 a0_6 a0_7 a0_8 a1_0 a1_1 a1_2 a1_3 a1_4) else (redoubtlaw15_PickNone.j0 k (decide (a1_4 > 65535)) a0_0 a0_1 a0_2 a0_3 a0_4 a0_5 a0_6 a0_7 a0_8 a1_0 a1_1 a1_2 a1_3 a1_4)))))) else (if (a1_0.size : Int) = 16 then (if a1_2 < 0 then (redoubtlaw15_PickNone.j0 k true a0_0 a0_1 a0_2 a0_3 a0_4 a0_5 a0_6 a0_7 a0_8 a1_0 a1_1 a1_2 a1_3 a1_4) else (if a1_2 > 255 then (redoubtlaw15_PickNone.j0 k true a0_0 a0_1 a0_2 a0_3 a0_4 a0_5 a0_6 a0_7 a0_8 a1_0 a1_1 a1_2 a1_3 a1_4) else (if a1_3 < (-1) then (redoubtlaw15_PickNone.j0 k true a0_0 a0_1 a0_2 a0_3 a0_4 a0_5 a0_6 a0_7 a0_8 a1_0 a1_1 a1_2 a1_3 a1_4) else (if a1_3 > 65535 then (redoubtlaw15_PickNone.j0 k true a0_0 a0_1 a0_2 a0_3 a0_4 a0_5 a0_6 a0_7 a0_8 a1_0 a1_1 a1_2 a1_3 a1_4) else (if a1_4 < (-1) then (redoubtlaw15_PickNone.j0 k true a0_0 a0_1 a0_2 a0_3 a0_4 a0_5 a0_6 a0_7 a0_8 a1_0 a1_1 a1_2 a1_3 a1_4) else (redoubtlaw15_PickNone.j0 k (decide (a1_4 > 65535)) a0_0 a0_1 a0_2 a0_3 a0_4 a0_5 a0_6 a0_7 a0_8 a1_0 a1_1 a1_2 a1_3 a1_4)))))) else (redoubtlaw15_PickNone.j0 k true a0_0 a0_1 a0_2 a0_3 a0_4 a0_5 a0_6 a0_7 a0_8 a1_0 a1_1 a1_2 a1_3 a1_4))) else (redoubtlaw15_PickNone.j0 k true a0_0 a0_1 a0_2 a0_3 a0_4 a0_5 a0_6 a0_7 a0_8 a1_0 a1_1 a1_2 a1_3 a1_4)) else (redoubtlaw15_PickNone.j0 k true a0_0 a0_1 a0_2 a0_3 a0_4 a0_5 a0_6 a0_7 a0_8 a1_0 a1_1 a1_2 a1_3 a1_4))) = some r := h
  clear h
  have HC3 := Aside0.mk H
  clear H
  go_enter Try.func6, Try.ntmps6
  go_upto_region 1 with (first | ((with_reducible refine gate_dst (N := 2) rfl ?_); (try (refine gate_guard (by rfl) ?_; dsimp only)); refine box_event ?hg (N := 2) ?hd (cs := #[.string a0_0, .string a0_1, .string a0_2, .string a0_3, .int .i64 a0_4, .int .i64 a0_5, .int .i64 a0_6, .int .i64 a0_7, .int .i64 a0_8]) (t := 37) ?hr ?_; (case hd => rfl); (case hg => rfl); (case hr => first | (go_simp; done) | (go_simp; rfl)); intro gb253 hg w4 hbox hb; have n0_ := Aside0.mk (below_step (by repeat (first | (with_reducible first | exact HB.out | apply below_alloc | apply pw_below_drewN | apply below_drew1) | exact HB.out)) hb); have n1_ := Aside0.mk (hbox); have n2_ := Aside0.mk ((by rw [hg]; exact (below_size (by repeat (first | (with_reducible first | exact HB.out | apply below_alloc | apply pw_below_drewN | apply below_drew1) | exact HB.out))) : w.heap.size ≤ gb253)); have n3_ := Aside0.mk ((by rw [hg]; exact (below_size (by repeat (first | (with_reducible first | exact HB.out | apply below_alloc | apply pw_below_drewN | apply below_drew1) | exact HB.out))) : w.heap.size ≤ gb253)); clear HB; have HB := n0_; have BK253 := n1_; have GW253 := n2_; have GE253 := n3_; clear n0_ n1_ n2_ n3_; clear hb hbox hg) | ((with_reducible refine gate_dst (N := 3) rfl ?_); (try (refine gate_guard (by rfl) ?_; dsimp only)); refine box_event ?hg (N := 3) ?hd (cs := #[.string a1_0, .string a1_1, .int .i64 a1_2, .int .i64 a1_3, .int .i64 a1_4]) (t := 24) ?hr ?_; (case hd => rfl); (case hg => rfl); (case hr => first | (go_simp; done) | (go_simp; rfl)); intro gb254 hg w5 hbox hb; have n0_ := Aside0.mk (blk_below (g := gb253) (o := .cells #[.string a0_0, .string a0_1, .string a0_2, .string a0_3, .int .i64 a0_4, .int .i64 a0_5, .int .i64 a0_6, .int .i64 a0_7, .int .i64 a0_8] 37 (0, 0)) (by (with_reducible repeat (first | refine blk_drewN ?_ _ | refine blk_drew ?_ | refine blk_alloc ?_ _)); exact BK253.out) hb); have n1_ := Aside0.mk (below_step (by repeat (first | (with_reducible first | exact HB.out | apply below_alloc | apply pw_below_drewN | apply below_drew1 | refine below_set ?_ GE253.out) | exact HB.out)) hb); have n2_ := Aside0.mk (hbox); have n3_ := Aside0.mk ((by rw [hg]; exact (below_size (by repeat (first | (with_reducible first | exact HB.out | apply below_alloc | apply pw_below_drewN | apply below_drew1 | refine below_set ?_ GE253.out) | exact HB.out))) : w.heap.size ≤ gb254)); have n4_ := Aside0.mk ((by rw [hg]; exact (below_size (by repeat (first | (with_reducible first | exact HB.out | apply below_alloc | apply pw_below_drewN | apply below_drew1 | refine below_set ?_ GE253.out) | exact HB.out))) : w.heap.size ≤ gb254)); have n5_ := Aside0.mk ((by rw [hg]; exact Nat.ne_of_lt (blk_lt (g := gb253) (o := .cells #[.string a0_0, .string a0_1, .string a0_2, .string a0_3, .int .i64 a0_4, .int .i64 a0_5, .int .i64 a0_6, .int .i64 a0_7, .int .i64 a0_8] 37 (0, 0)) (by (with_reducible repeat (first | refine blk_drewN ?_ _ | refine blk_drew ?_ | refine blk_alloc ?_ _)); exact BK253.out)) : gb253 ≠ gb254)); have n6_ := Aside0.mk ((by rw [hg]; exact Nat.ne_of_gt (blk_lt (g := gb253) (o := .cells #[.string a0_0, .string a0_1, .string a0_2, .string a0_3, .int .i64 a0_4, .int .i64 a0_5, .int .i64 a0_6, .int .i64 a0_7, .int .i64 a0_8] 37 (0, 0)) (by (with_reducible repeat (first | refine blk_drewN ?_ _ | refine blk_drew ?_ | refine blk_alloc ?_ _)); exact BK253.out)) : gb254 ≠ gb253)); clear BK253; clear HB; have BK253 := n0_; have HB := n1_; have BK254 := n2_; have GW254 := n3_; have GE254 := n4_; have NB253_254 := n5_; have NB254_253 := n6_; clear n0_ n1_ n2_ n3_ n4_ n5_ n6_; clear hb hbox hg))
  (try simp only [Act.put, List.setIfInBounds_toArray, List.set_cons_zero, List.set_cons_succ])
  go_cut [61] (fun v61 wc => ∃ (kq : Nat) (x61_2 : Bool), v61 = .bool x61_2 ∧ Aside0 (redoubtlaw15_PickNone.j0 kq x61_2 a0_0 a0_1 a0_2 a0_3 a0_4 a0_5 a0_6 a0_7 a0_8 a1_0 a1_1 a1_2 a1_3 a1_4 = some r) ∧ Aside0 (kq ≤ k) ∧ Aside0 (wc.heap[gb253]? = some (.cells #[.string a0_0, .string a0_1, .string a0_2, .string a0_3, .int .i64 a0_4, .int .i64 a0_5, .int .i64 a0_6, .int .i64 a0_7, .int .i64 a0_8] 37 (0, 0))) ∧ Aside0 (wc.heap[gb254]? = some (.cells #[.string a1_0, .string a1_1, .int .i64 a1_2, .int .i64 a1_3, .int .i64 a1_4] 24 (0, 0))) ∧ Aside0 (Below w.heap.size w wc))
  case first =>
    have H := HC3.out
    clear HC3
    replace H := Option.bind_eq_some_iff.mp H
    obtain ⟨t255, A60, H⟩ := H
    replace H : (if t255 = true then (if (a1_0.size : Int) = (a1_1.size : Int) then (if (a1_0.size : Int) = 4 then (if a1_2 < 0 then (redoubtlaw15_PickNone.j0 k true a0_0 a0_1 a0_2 a0_3 a0_4 a0_5 a0_6 a0_7 a0_8 a1_0 a1_1 a1_2 a1_3 a1_4) else (if a1_2 > 255 then (redoubtlaw15_PickNone.j0 k true a0_0 a0_1 a0_2 a0_3 a0_4 a0_5 a0_6 a0_7 a0_8 a1_0 a1_1 a1_2 a1_3 a1_4) else (if a1_3 < (-1) then (redoubtlaw15_PickNone.j0 k true a0_0 a0_1 a0_2 a0_3 a0_4 a0_5 a0_6 a0_7 a0_8 a1_0 a1_1 a1_2 a1_3 a1_4) else (if a1_3 > 65535 then (redoubtlaw15_PickNone.j0 k true a0_0 a0_1 a0_2 a0_3 a0_4 a0_5 a0_6 a0_7 a0_8 a1_0 a1_1 a1_2 a1_3 a1_4) else (if a1_4 < (-1) then (redoubtlaw15_PickNone.j0 k true a0_0 a0_1 a0_2 a0_3 a0_4 a0_5 a0_6 a0_7 a0_8 a1_0 a1_1 a1_2 a1_3 a1_4) else (redoubtlaw15_PickNone.j0 k (decide (a1_4 > 65535)) a0_0 a0_1 a0_2 a0_3 a0_4 a0_5 a0_6 a0_7 a0_8 a1_0 a1_1 a1_2 a1_3 a1_4)))))) else (if (a1_0.size : Int) = 16 then (if a1_2 < 0 then (redoubtlaw15_PickNone.j0 k true a0_0 a0_1 a0_2 a0_3 a0_4 a0_5 a0_6 a0_7 a0_8 a1_0 a1_1 a1_2 a1_3 a1_4) else (if a1_2 > 255 then (redoubtlaw15_PickNone.j0 k true a0_0 a0_1 a0_2 a0_3 a0_4 a0_5 a0_6 a0_7 a0_8 a1_0 a1_1 a1_2 a1_3 a1_4) else (if a1_3 < (-1) then (redoubtlaw15_PickNone.j0 k true a0_0 a0_1 a0_2 a0_3 a0_4 a0_5 a0_6 a0_7 a0_8 a1_0 a1_1 a1_2 a1_3 a1_4) else (if a1_3 > 65535 then (redoubtlaw15_PickNone.j0 k true a0_0 a0_1 a0_2 a0_3 a0_4 a0_5 a0_6 a0_7 a0_8 a1_0 a1_1 a1_2 a1_3 a1_4) else (if a1_4 < (-1) then (redoubtlaw15_PickNone.j0 k true a0_0 a0_1 a0_2 a0_3 a0_4 a0_5 a0_6 a0_7 a0_8 a1_0 a1_1 a1_2 a1_3 a1_4) else (redoubtlaw15_PickNone.j0 k (decide (a1_4 > 65535)) a0_0 a0_1 a0_2 a0_3 a0_4 a0_5 a0_6 a0_7 a0_8 a1_0 a1_1 a1_2 a1_3 a1_4)))))) else (redoubtlaw15_PickNone.j0 k true a0_0 a0_1 a0_2 a0_3 a0_4 a0_5 a0_6 a0_7 a0_8 a1_0 a1_1 a1_2 a1_3 a1_4))) else (redoubtlaw15_PickNone.j0 k true a0_0 a0_1 a0_2 a0_3 a0_4 a0_5 a0_6 a0_7 a0_8 a1_0 a1_1 a1_2 a1_3 a1_4)) else (redoubtlaw15_PickNone.j0 k true a0_0 a0_1 a0_2 a0_3 a0_4 a0_5 a0_6 a0_7 a0_8 a1_0 a1_1 a1_2 a1_3 a1_4)) = some r := H
    have A6 := Aside0.mk A60
    clear A60
    by_cases c7 : t255 = true
    · subst c7
      have H1 : (if (a1_0.size : Int) = (a1_1.size : Int) then (if (a1_0.size : Int) = 4 then (if a1_2 < 0 then (redoubtlaw15_PickNone.j0 k true a0_0 a0_1 a0_2 a0_3 a0_4 a0_5 a0_6 a0_7 a0_8 a1_0 a1_1 a1_2 a1_3 a1_4) else (if a1_2 > 255 then (redoubtlaw15_PickNone.j0 k true a0_0 a0_1 a0_2 a0_3 a0_4 a0_5 a0_6 a0_7 a0_8 a1_0 a1_1 a1_2 a1_3 a1_4) else (if a1_3 < (-1) then (redoubtlaw15_PickNone.j0 k true a0_0 a0_1 a0_2 a0_3 a0_4 a0_5 a0_6 a0_7 a0_8 a1_0 a1_1 a1_2 a1_3 a1_4) else (if a1_3 > 65535 then (redoubtlaw15_PickNone.j0 k true a0_0 a0_1 a0_2 a0_3 a0_4 a0_5 a0_6 a0_7 a0_8 a1_0 a1_1 a1_2 a1_3 a1_4) else (if a1_4 < (-1) then (redoubtlaw15_PickNone.j0 k true a0_0 a0_1 a0_2 a0_3 a0_4 a0_5 a0_6 a0_7 a0_8 a1_0 a1_1 a1_2 a1_3 a1_4) else (redoubtlaw15_PickNone.j0 k (decide (a1_4 > 65535)) a0_0 a0_1 a0_2 a0_3 a0_4 a0_5 a0_6 a0_7 a0_8 a1_0 a1_1 a1_2 a1_3 a1_4)))))) else (if (a1_0.size : Int) = 16 then (if a1_2 < 0 then (redoubtlaw15_PickNone.j0 k true a0_0 a0_1 a0_2 a0_3 a0_4 a0_5 a0_6 a0_7 a0_8 a1_0 a1_1 a1_2 a1_3 a1_4) else (if a1_2 > 255 then (redoubtlaw15_PickNone.j0 k true a0_0 a0_1 a0_2 a0_3 a0_4 a0_5 a0_6 a0_7 a0_8 a1_0 a1_1 a1_2 a1_3 a1_4) else (if a1_3 < (-1) then (redoubtlaw15_PickNone.j0 k true a0_0 a0_1 a0_2 a0_3 a0_4 a0_5 a0_6 a0_7 a0_8 a1_0 a1_1 a1_2 a1_3 a1_4) else (if a1_3 > 65535 then (redoubtlaw15_PickNone.j0 k true a0_0 a0_1 a0_2 a0_3 a0_4 a0_5 a0_6 a0_7 a0_8 a1_0 a1_1 a1_2 a1_3 a1_4) else (if a1_4 < (-1) then (redoubtlaw15_PickNone.j0 k true a0_0 a0_1 a0_2 a0_3 a0_4 a0_5 a0_6 a0_7 a0_8 a1_0 a1_1 a1_2 a1_3 a1_4) else (redoubtlaw15_PickNone.j0 k (decide (a1_4 > 65535)) a0_0 a0_1 a0_2 a0_3 a0_4 a0_5 a0_6 a0_7 a0_8 a1_0 a1_1 a1_2 a1_3 a1_4)))))) else (redoubtlaw15_PickNone.j0 k true a0_0 a0_1 a0_2 a0_3 a0_4 a0_5 a0_6 a0_7 a0_8 a1_0 a1_1 a1_2 a1_3 a1_4))) else (redoubtlaw15_PickNone.j0 k true a0_0 a0_1 a0_2 a0_3 a0_4 a0_5 a0_6 a0_7 a0_8 a1_0 a1_1 a1_2 a1_3 a1_4)) = some r := by rw [if_pos rfl] at H; exact H
      clear H
      have H := H1
      clear H1
      by_cases c8 : (a1_0.size : Int) = (a1_1.size : Int)
      · rw [if_pos c8] at H
        have c8b0 : ((a1_0.size : Int) == (a1_1.size : Int)) = true := beq_iff_eq.mpr c8
        have c8b1 : ((a1_0.size : Int) != (a1_1.size : Int)) = false := bne_eq_false_iff_eq.mpr c8
        have c8b2 : (a1_0.size == a1_1.size) = true := by first | simpa using c8 | (simp at c8 ⊢; omega)
        clear c8
        (first | rw [c8b0] | (simp only [i64_w, i32_w]; rw [c8b0]) | skip)
        by_cases c9 : (a1_0.size : Int) = 4
        · rw [if_pos c9] at H
          have c9b0 : ((a1_0.size : Int) == 4) = true := beq_iff_eq.mpr c9
          have c9b1 : ((a1_0.size : Int) != 4) = false := bne_eq_false_iff_eq.mpr c9
          clear c9
          by_cases c10 : a1_2 < 0
          · rw [if_pos c10] at H
            have c10b0 : decide (a1_2 < 0) = true := decide_eq_true c10
            clear c10
            have H' := Aside0.mk H
            clear H
            have hnb11 := NB253_254.out
            have hnc11 := NB254_253.out
            have hcz12_0 : w5.cell? ⟨gb253, 0, none⟩ = some (.string a0_0) := (blk_cell BK253.out 0).trans rfl
            have hcz12_1 : w5.cell? ⟨gb253, 1, none⟩ = some (.string a0_1) := (blk_cell BK253.out 1).trans rfl
            have hcz12_2 : w5.cell? ⟨gb253, 2, none⟩ = some (.string a0_2) := (blk_cell BK253.out 2).trans rfl
            have hcz12_3 : w5.cell? ⟨gb253, 3, none⟩ = some (.string a0_3) := (blk_cell BK253.out 3).trans rfl
            have hcz12_4 : w5.cell? ⟨gb253, 4, none⟩ = some (.int .i64 a0_4) := (blk_cell BK253.out 4).trans rfl
            have hcz12_5 : w5.cell? ⟨gb253, 5, none⟩ = some (.int .i64 a0_5) := (blk_cell BK253.out 5).trans rfl
            have hcz12_6 : w5.cell? ⟨gb253, 6, none⟩ = some (.int .i64 a0_6) := (blk_cell BK253.out 6).trans rfl
            have hcz12_7 : w5.cell? ⟨gb253, 7, none⟩ = some (.int .i64 a0_7) := (blk_cell BK253.out 7).trans rfl
            have hcz12_8 : w5.cell? ⟨gb253, 8, none⟩ = some (.int .i64 a0_8) := (blk_cell BK253.out 8).trans rfl
            have hfz12_0 := blk_frozen BK253.out 0
            have hfz12_1 := blk_frozen BK253.out 1
            have hfz12_2 := blk_frozen BK253.out 2
            have hfz12_3 := blk_frozen BK253.out 3
            have hfz12_4 := blk_frozen BK253.out 4
            have hfz12_5 := blk_frozen BK253.out 5
            have hfz12_6 := blk_frozen BK253.out 6
            have hfz12_7 := blk_frozen BK253.out 7
            have hfz12_8 := blk_frozen BK253.out 8
            have hcz13_0 : w5.cell? ⟨gb254, 0, none⟩ = some (.string a1_0) := (blk_cell BK254.out 0).trans rfl
            have hcz13_1 : w5.cell? ⟨gb254, 1, none⟩ = some (.string a1_1) := (blk_cell BK254.out 1).trans rfl
            have hcz13_2 : w5.cell? ⟨gb254, 2, none⟩ = some (.int .i64 a1_2) := (blk_cell BK254.out 2).trans rfl
            have hcz13_3 : w5.cell? ⟨gb254, 3, none⟩ = some (.int .i64 a1_3) := (blk_cell BK254.out 3).trans rfl
            have hcz13_4 : w5.cell? ⟨gb254, 4, none⟩ = some (.int .i64 a1_4) := (blk_cell BK254.out 4).trans rfl
            have hfz13_0 := blk_frozen BK254.out 0
            have hfz13_1 := blk_frozen BK254.out 1
            have hfz13_2 := blk_frozen BK254.out 2
            have hfz13_3 := blk_frozen BK254.out 3
            have hfz13_4 := blk_frozen BK254.out 4
            go_wp2_with (first | ((with_reducible refine gate_callee (f := 13) rfl ?_); refine goesL_ (some 9) rfl rfl Try.func13 (by kernel_rfl) rfl #[.agg #[.string a0_0, .string a0_1, .string a0_2, .string a0_3, .int .i64 a0_4, .int .i64 a0_5, .int .i64 a0_6, .int .i64 a0_7, .int .i64 a0_8], .agg #[.string a1_0, .string a1_1, .int .i64 a1_2, .int .i64 a1_3, .int .i64 a1_4]] rfl (by (try simp only [List.map_toArray, List.map_cons, List.map_nil]); first | done | rfl | (simp only [List.length_drop, List.length_take]; rfl)) ?_; (with_reducible refine (redoubtlaw15_few.calls a0_0 a0_1 a0_2 a0_3 a0_4 a0_5 a0_6 a0_7 a0_8 a1_0 a1_1 a1_2 a1_3 a1_4 true _ A6.out).mono ?_); rintro e w14 ⟨rfl, hb⟩; refine ⟨_, rfl, ?_⟩; have n0_ := Aside0.mk (blk_below (g := gb253) (o := .cells #[.string a0_0, .string a0_1, .string a0_2, .string a0_3, .int .i64 a0_4, .int .i64 a0_5, .int .i64 a0_6, .int .i64 a0_7, .int .i64 a0_8] 37 (0, 0)) (by (with_reducible repeat (first | refine blk_drewN ?_ _ | refine blk_drew ?_ | refine blk_alloc ?_ _)); exact BK253.out) hb); have n1_ := Aside0.mk (blk_below (g := gb254) (o := .cells #[.string a1_0, .string a1_1, .int .i64 a1_2, .int .i64 a1_3, .int .i64 a1_4] 24 (0, 0)) (by (with_reducible repeat (first | refine blk_drewN ?_ _ | refine blk_drew ?_ | refine blk_alloc ?_ _)); exact BK254.out) hb); have n2_ := Aside0.mk (below_step (by repeat (first | (with_reducible first | exact HB.out | apply below_alloc | apply pw_below_drewN | apply below_drew1 | refine below_set ?_ GE253.out | refine below_set ?_ GE254.out) | exact HB.out)) hb); clear BK253; clear BK254; clear HB; have BK253 := n0_; have BK254 := n1_; have HB := n2_; clear n0_ n1_ n2_; (try clear hb); (try clear hb2); (try clear hk); (try clear hi); have hcz15_0 : w14.cell? ⟨gb254, 0, none⟩ = some (.string a1_0) := (blk_cell BK254.out 0).trans rfl; have hcz15_1 : w14.cell? ⟨gb254, 1, none⟩ = some (.string a1_1) := (blk_cell BK254.out 1).trans rfl; have hcz15_2 : w14.cell? ⟨gb254, 2, none⟩ = some (.int .i64 a1_2) := (blk_cell BK254.out 2).trans rfl; have hcz15_3 : w14.cell? ⟨gb254, 3, none⟩ = some (.int .i64 a1_3) := (blk_cell BK254.out 3).trans rfl; have hcz15_4 : w14.cell? ⟨gb254, 4, none⟩ = some (.int .i64 a1_4) := (blk_cell BK254.out 4).trans rfl; have hfz15_0 := blk_frozen BK254.out 0; have hfz15_1 := blk_frozen BK254.out 1; have hfz15_2 := blk_frozen BK254.out 2; have hfz15_3 := blk_frozen BK254.out 3; have hfz15_4 := blk_frozen BK254.out 4))
            go_meet
            case rel => exact ⟨_, (true), (by first | rfl | (simp; done) | (simp [*]; done)), H', ⟨by first | omega | exact Nat.le_refl _⟩, ⟨by (with_reducible repeat (first | refine blk_drewN ?_ _ | refine blk_drew ?_ | refine blk_alloc ?_ _)); exact BK253.out⟩, ⟨by (with_reducible repeat (first | refine blk_drewN ?_ _ | refine blk_drew ?_ | refine blk_alloc ?_ _)); exact BK254.out⟩, ⟨by repeat (first | (with_reducible first | exact HB.out | apply below_alloc | apply pw_below_drewN | apply below_drew1 | refine below_set ?_ GE253.out | refine below_set ?_ GE254.out) | exact HB.out)⟩⟩
          · rw [if_neg c10] at H
            have c10b0 : decide (a1_2 < 0) = false := decide_eq_false c10
            clear c10
            by_cases c16 : a1_2 > 255
            · rw [if_pos c16] at H
              have c16b0 : decide (255 < a1_2) = true := decide_eq_true c16
              clear c16
              have H' := Aside0.mk H
              clear H
              have hnb17 := NB253_254.out
              have hnc17 := NB254_253.out
              have hcz18_0 : w5.cell? ⟨gb253, 0, none⟩ = some (.string a0_0) := (blk_cell BK253.out 0).trans rfl
              have hcz18_1 : w5.cell? ⟨gb253, 1, none⟩ = some (.string a0_1) := (blk_cell BK253.out 1).trans rfl
              have hcz18_2 : w5.cell? ⟨gb253, 2, none⟩ = some (.string a0_2) := (blk_cell BK253.out 2).trans rfl
              have hcz18_3 : w5.cell? ⟨gb253, 3, none⟩ = some (.string a0_3) := (blk_cell BK253.out 3).trans rfl
              have hcz18_4 : w5.cell? ⟨gb253, 4, none⟩ = some (.int .i64 a0_4) := (blk_cell BK253.out 4).trans rfl
              have hcz18_5 : w5.cell? ⟨gb253, 5, none⟩ = some (.int .i64 a0_5) := (blk_cell BK253.out 5).trans rfl
              have hcz18_6 : w5.cell? ⟨gb253, 6, none⟩ = some (.int .i64 a0_6) := (blk_cell BK253.out 6).trans rfl
              have hcz18_7 : w5.cell? ⟨gb253, 7, none⟩ = some (.int .i64 a0_7) := (blk_cell BK253.out 7).trans rfl
              have hcz18_8 : w5.cell? ⟨gb253, 8, none⟩ = some (.int .i64 a0_8) := (blk_cell BK253.out 8).trans rfl
              have hfz18_0 := blk_frozen BK253.out 0
              have hfz18_1 := blk_frozen BK253.out 1
              have hfz18_2 := blk_frozen BK253.out 2
              have hfz18_3 := blk_frozen BK253.out 3
              have hfz18_4 := blk_frozen BK253.out 4
              have hfz18_5 := blk_frozen BK253.out 5
              have hfz18_6 := blk_frozen BK253.out 6
              have hfz18_7 := blk_frozen BK253.out 7
              have hfz18_8 := blk_frozen BK253.out 8
              have hcz19_0 : w5.cell? ⟨gb254, 0, none⟩ = some (.string a1_0) := (blk_cell BK254.out 0).trans rfl
              have hcz19_1 : w5.cell? ⟨gb254, 1, none⟩ = some (.string a1_1) := (blk_cell BK254.out 1).trans rfl
              have hcz19_2 : w5.cell? ⟨gb254, 2, none⟩ = some (.int .i64 a1_2) := (blk_cell BK254.out 2).trans rfl
              have hcz19_3 : w5.cell? ⟨gb254, 3, none⟩ = some (.int .i64 a1_3) := (blk_cell BK254.out 3).trans rfl
              have hcz19_4 : w5.cell? ⟨gb254, 4, none⟩ = some (.int .i64 a1_4) := (blk_cell BK254.out 4).trans rfl
              have hfz19_0 := blk_frozen BK254.out 0
              have hfz19_1 := blk_frozen BK254.out 1
              have hfz19_2 := blk_frozen BK254.out 2
              have hfz19_3 := blk_frozen BK254.out 3
              have hfz19_4 := blk_frozen BK254.out 4
              go_wp2_with (first | ((with_reducible refine gate_callee (f := 13) rfl ?_); refine goesL_ (some 9) rfl rfl Try.func13 (by kernel_rfl) rfl #[.agg #[.string a0_0, .string a0_1, .string a0_2, .string a0_3, .int .i64 a0_4, .int .i64 a0_5, .int .i64 a0_6, .int .i64 a0_7, .int .i64 a0_8], .agg #[.string a1_0, .string a1_1, .int .i64 a1_2, .int .i64 a1_3, .int .i64 a1_4]] rfl (by (try simp only [List.map_toArray, List.map_cons, List.map_nil]); first | done | rfl | (simp only [List.length_drop, List.length_take]; rfl)) ?_; (with_reducible refine (redoubtlaw15_few.calls a0_0 a0_1 a0_2 a0_3 a0_4 a0_5 a0_6 a0_7 a0_8 a1_0 a1_1 a1_2 a1_3 a1_4 true _ A6.out).mono ?_); rintro e w20 ⟨rfl, hb⟩; refine ⟨_, rfl, ?_⟩; have n0_ := Aside0.mk (blk_below (g := gb253) (o := .cells #[.string a0_0, .string a0_1, .string a0_2, .string a0_3, .int .i64 a0_4, .int .i64 a0_5, .int .i64 a0_6, .int .i64 a0_7, .int .i64 a0_8] 37 (0, 0)) (by (with_reducible repeat (first | refine blk_drewN ?_ _ | refine blk_drew ?_ | refine blk_alloc ?_ _)); exact BK253.out) hb); have n1_ := Aside0.mk (blk_below (g := gb254) (o := .cells #[.string a1_0, .string a1_1, .int .i64 a1_2, .int .i64 a1_3, .int .i64 a1_4] 24 (0, 0)) (by (with_reducible repeat (first | refine blk_drewN ?_ _ | refine blk_drew ?_ | refine blk_alloc ?_ _)); exact BK254.out) hb); have n2_ := Aside0.mk (below_step (by repeat (first | (with_reducible first | exact HB.out | apply below_alloc | apply pw_below_drewN | apply below_drew1 | refine below_set ?_ GE253.out | refine below_set ?_ GE254.out) | exact HB.out)) hb); clear BK253; clear BK254; clear HB; have BK253 := n0_; have BK254 := n1_; have HB := n2_; clear n0_ n1_ n2_; (try clear hb); (try clear hb2); (try clear hk); (try clear hi); have hcz21_0 : w20.cell? ⟨gb254, 0, none⟩ = some (.string a1_0) := (blk_cell BK254.out 0).trans rfl; have hcz21_1 : w20.cell? ⟨gb254, 1, none⟩ = some (.string a1_1) := (blk_cell BK254.out 1).trans rfl; have hcz21_2 : w20.cell? ⟨gb254, 2, none⟩ = some (.int .i64 a1_2) := (blk_cell BK254.out 2).trans rfl; have hcz21_3 : w20.cell? ⟨gb254, 3, none⟩ = some (.int .i64 a1_3) := (blk_cell BK254.out 3).trans rfl; have hcz21_4 : w20.cell? ⟨gb254, 4, none⟩ = some (.int .i64 a1_4) := (blk_cell BK254.out 4).trans rfl; have hfz21_0 := blk_frozen BK254.out 0; have hfz21_1 := blk_frozen BK254.out 1; have hfz21_2 := blk_frozen BK254.out 2; have hfz21_3 := blk_frozen BK254.out 3; have hfz21_4 := blk_frozen BK254.out 4))
              go_meet
              case rel => exact ⟨_, (true), (by first | rfl | (simp; done) | (simp [*]; done)), H', ⟨by first | omega | exact Nat.le_refl _⟩, ⟨by (with_reducible repeat (first | refine blk_drewN ?_ _ | refine blk_drew ?_ | refine blk_alloc ?_ _)); exact BK253.out⟩, ⟨by (with_reducible repeat (first | refine blk_drewN ?_ _ | refine blk_drew ?_ | refine blk_alloc ?_ _)); exact BK254.out⟩, ⟨by repeat (first | (with_reducible first | exact HB.out | apply below_alloc | apply pw_below_drewN | apply below_drew1 | refine below_set ?_ GE253.out | refine below_set ?_ GE254.out) | exact HB.out)⟩⟩
            · rw [if_neg c16] at H
              have c16b0 : decide (255 < a1_2) = false := decide_eq_false c16
              clear c16
              by_cases c22 : a1_3 < (-1)
              · rw [if_pos c22] at H
                have c22b0 : decide (a1_3 < (-1)) = true := decide_eq_true c22
                clear c22
                have H' := Aside0.mk H
                clear H
                have hnb23 := NB253_254.out
                have hnc23 := NB254_253.out
                have hcz24_0 : w5.cell? ⟨gb253, 0, none⟩ = some (.string a0_0) := (blk_cell BK253.out 0).trans rfl
                have hcz24_1 : w5.cell? ⟨gb253, 1, none⟩ = some (.string a0_1) := (blk_cell BK253.out 1).trans rfl
                have hcz24_2 : w5.cell? ⟨gb253, 2, none⟩ = some (.string a0_2) := (blk_cell BK253.out 2).trans rfl
                have hcz24_3 : w5.cell? ⟨gb253, 3, none⟩ = some (.string a0_3) := (blk_cell BK253.out 3).trans rfl
                have hcz24_4 : w5.cell? ⟨gb253, 4, none⟩ = some (.int .i64 a0_4) := (blk_cell BK253.out 4).trans rfl
                have hcz24_5 : w5.cell? ⟨gb253, 5, none⟩ = some (.int .i64 a0_5) := (blk_cell BK253.out 5).trans rfl
                have hcz24_6 : w5.cell? ⟨gb253, 6, none⟩ = some (.int .i64 a0_6) := (blk_cell BK253.out 6).trans rfl
                have hcz24_7 : w5.cell? ⟨gb253, 7, none⟩ = some (.int .i64 a0_7) := (blk_cell BK253.out 7).trans rfl
                have hcz24_8 : w5.cell? ⟨gb253, 8, none⟩ = some (.int .i64 a0_8) := (blk_cell BK253.out 8).trans rfl
                have hfz24_0 := blk_frozen BK253.out 0
                have hfz24_1 := blk_frozen BK253.out 1
                have hfz24_2 := blk_frozen BK253.out 2
                have hfz24_3 := blk_frozen BK253.out 3
                have hfz24_4 := blk_frozen BK253.out 4
                have hfz24_5 := blk_frozen BK253.out 5
                have hfz24_6 := blk_frozen BK253.out 6
                have hfz24_7 := blk_frozen BK253.out 7
                have hfz24_8 := blk_frozen BK253.out 8
                have hcz25_0 : w5.cell? ⟨gb254, 0, none⟩ = some (.string a1_0) := (blk_cell BK254.out 0).trans rfl
                have hcz25_1 : w5.cell? ⟨gb254, 1, none⟩ = some (.string a1_1) := (blk_cell BK254.out 1).trans rfl
                have hcz25_2 : w5.cell? ⟨gb254, 2, none⟩ = some (.int .i64 a1_2) := (blk_cell BK254.out 2).trans rfl
                have hcz25_3 : w5.cell? ⟨gb254, 3, none⟩ = some (.int .i64 a1_3) := (blk_cell BK254.out 3).trans rfl
                have hcz25_4 : w5.cell? ⟨gb254, 4, none⟩ = some (.int .i64 a1_4) := (blk_cell BK254.out 4).trans rfl
                have hfz25_0 := blk_frozen BK254.out 0
                have hfz25_1 := blk_frozen BK254.out 1
                have hfz25_2 := blk_frozen BK254.out 2
                have hfz25_3 := blk_frozen BK254.out 3
                have hfz25_4 := blk_frozen BK254.out 4
                go_wp2_with (first | ((with_reducible refine gate_callee (f := 13) rfl ?_); refine goesL_ (some 9) rfl rfl Try.func13 (by kernel_rfl) rfl #[.agg #[.string a0_0, .string a0_1, .string a0_2, .string a0_3, .int .i64 a0_4, .int .i64 a0_5, .int .i64 a0_6, .int .i64 a0_7, .int .i64 a0_8], .agg #[.string a1_0, .string a1_1, .int .i64 a1_2, .int .i64 a1_3, .int .i64 a1_4]] rfl (by (try simp only [List.map_toArray, List.map_cons, List.map_nil]); first | done | rfl | (simp only [List.length_drop, List.length_take]; rfl)) ?_; (with_reducible refine (redoubtlaw15_few.calls a0_0 a0_1 a0_2 a0_3 a0_4 a0_5 a0_6 a0_7 a0_8 a1_0 a1_1 a1_2 a1_3 a1_4 true _ A6.out).mono ?_); rintro e w26 ⟨rfl, hb⟩; refine ⟨_, rfl, ?_⟩; have n0_ := Aside0.mk (blk_below (g := gb253) (o := .cells #[.string a0_0, .string a0_1, .string a0_2, .string a0_3, .int .i64 a0_4, .int .i64 a0_5, .int .i64 a0_6, .int .i64 a0_7, .int .i64 a0_8] 37 (0, 0)) (by (with_reducible repeat (first | refine blk_drewN ?_ _ | refine blk_drew ?_ | refine blk_alloc ?_ _)); exact BK253.out) hb); have n1_ := Aside0.mk (blk_below (g := gb254) (o := .cells #[.string a1_0, .string a1_1, .int .i64 a1_2, .int .i64 a1_3, .int .i64 a1_4] 24 (0, 0)) (by (with_reducible repeat (first | refine blk_drewN ?_ _ | refine blk_drew ?_ | refine blk_alloc ?_ _)); exact BK254.out) hb); have n2_ := Aside0.mk (below_step (by repeat (first | (with_reducible first | exact HB.out | apply below_alloc | apply pw_below_drewN | apply below_drew1 | refine below_set ?_ GE253.out | refine below_set ?_ GE254.out) | exact HB.out)) hb); clear BK253; clear BK254; clear HB; have BK253 := n0_; have BK254 := n1_; have HB := n2_; clear n0_ n1_ n2_; (try clear hb); (try clear hb2); (try clear hk); (try clear hi); have hcz27_0 : w26.cell? ⟨gb254, 0, none⟩ = some (.string a1_0) := (blk_cell BK254.out 0).trans rfl; have hcz27_1 : w26.cell? ⟨gb254, 1, none⟩ = some (.string a1_1) := (blk_cell BK254.out 1).trans rfl; have hcz27_2 : w26.cell? ⟨gb254, 2, none⟩ = some (.int .i64 a1_2) := (blk_cell BK254.out 2).trans rfl; have hcz27_3 : w26.cell? ⟨gb254, 3, none⟩ = some (.int .i64 a1_3) := (blk_cell BK254.out 3).trans rfl; have hcz27_4 : w26.cell? ⟨gb254, 4, none⟩ = some (.int .i64 a1_4) := (blk_cell BK254.out 4).trans rfl; have hfz27_0 := blk_frozen BK254.out 0; have hfz27_1 := blk_frozen BK254.out 1; have hfz27_2 := blk_frozen BK254.out 2; have hfz27_3 := blk_frozen BK254.out 3; have hfz27_4 := blk_frozen BK254.out 4))
                go_meet
                case rel => exact ⟨_, (true), (by first | rfl | (simp; done) | (simp [*]; done)), H', ⟨by first | omega | exact Nat.le_refl _⟩, ⟨by (with_reducible repeat (first | refine blk_drewN ?_ _ | refine blk_drew ?_ | refine blk_alloc ?_ _)); exact BK253.out⟩, ⟨by (with_reducible repeat (first | refine blk_drewN ?_ _ | refine blk_drew ?_ | refine blk_alloc ?_ _)); exact BK254.out⟩, ⟨by repeat (first | (with_reducible first | exact HB.out | apply below_alloc | apply pw_below_drewN | apply below_drew1 | refine below_set ?_ GE253.out | refine below_set ?_ GE254.out) | exact HB.out)⟩⟩
              · rw [if_neg c22] at H
                have c22b0 : decide (a1_3 < (-1)) = false := decide_eq_false c22
                clear c22
                by_cases c28 : a1_3 > 65535
                · rw [if_pos c28] at H
                  have c28b0 : decide (65535 < a1_3) = true := decide_eq_true c28
                  clear c28
                  have H' := Aside0.mk H
                  clear H
                  have hnb29 := NB253_254.out
                  have hnc29 := NB254_253.out
                  have hcz30_0 : w5.cell? ⟨gb253, 0, none⟩ = some (.string a0_0) := (blk_cell BK253.out 0).trans rfl
                  have hcz30_1 : w5.cell? ⟨gb253, 1, none⟩ = some (.string a0_1) := (blk_cell BK253.out 1).trans rfl
                  have hcz30_2 : w5.cell? ⟨gb253, 2, none⟩ = some (.string a0_2) := (blk_cell BK253.out 2).trans rfl
                  have hcz30_3 : w5.cell? ⟨gb253, 3, none⟩ = some (.string a0_3) := (blk_cell BK253.out 3).trans rfl
                  have hcz30_4 : w5.cell? ⟨gb253, 4, none⟩ = some (.int .i64 a0_4) := (blk_cell BK253.out 4).trans rfl
                  have hcz30_5 : w5.cell? ⟨gb253, 5, none⟩ = some (.int .i64 a0_5) := (blk_cell BK253.out 5).trans rfl
                  have hcz30_6 : w5.cell? ⟨gb253, 6, none⟩ = some (.int .i64 a0_6) := (blk_cell BK253.out 6).trans rfl
                  have hcz30_7 : w5.cell? ⟨gb253, 7, none⟩ = some (.int .i64 a0_7) := (blk_cell BK253.out 7).trans rfl
                  have hcz30_8 : w5.cell? ⟨gb253, 8, none⟩ = some (.int .i64 a0_8) := (blk_cell BK253.out 8).trans rfl
                  have hfz30_0 := blk_frozen BK253.out 0
                  have hfz30_1 := blk_frozen BK253.out 1
                  have hfz30_2 := blk_frozen BK253.out 2
                  have hfz30_3 := blk_frozen BK253.out 3
                  have hfz30_4 := blk_frozen BK253.out 4
                  have hfz30_5 := blk_frozen BK253.out 5
                  have hfz30_6 := blk_frozen BK253.out 6
                  have hfz30_7 := blk_frozen BK253.out 7
                  have hfz30_8 := blk_frozen BK253.out 8
                  have hcz31_0 : w5.cell? ⟨gb254, 0, none⟩ = some (.string a1_0) := (blk_cell BK254.out 0).trans rfl
                  have hcz31_1 : w5.cell? ⟨gb254, 1, none⟩ = some (.string a1_1) := (blk_cell BK254.out 1).trans rfl
                  have hcz31_2 : w5.cell? ⟨gb254, 2, none⟩ = some (.int .i64 a1_2) := (blk_cell BK254.out 2).trans rfl
                  have hcz31_3 : w5.cell? ⟨gb254, 3, none⟩ = some (.int .i64 a1_3) := (blk_cell BK254.out 3).trans rfl
                  have hcz31_4 : w5.cell? ⟨gb254, 4, none⟩ = some (.int .i64 a1_4) := (blk_cell BK254.out 4).trans rfl
                  have hfz31_0 := blk_frozen BK254.out 0
                  have hfz31_1 := blk_frozen BK254.out 1
                  have hfz31_2 := blk_frozen BK254.out 2
                  have hfz31_3 := blk_frozen BK254.out 3
                  have hfz31_4 := blk_frozen BK254.out 4
                  go_wp2_with (first | ((with_reducible refine gate_callee (f := 13) rfl ?_); refine goesL_ (some 9) rfl rfl Try.func13 (by kernel_rfl) rfl #[.agg #[.string a0_0, .string a0_1, .string a0_2, .string a0_3, .int .i64 a0_4, .int .i64 a0_5, .int .i64 a0_6, .int .i64 a0_7, .int .i64 a0_8], .agg #[.string a1_0, .string a1_1, .int .i64 a1_2, .int .i64 a1_3, .int .i64 a1_4]] rfl (by (try simp only [List.map_toArray, List.map_cons, List.map_nil]); first | done | rfl | (simp only [List.length_drop, List.length_take]; rfl)) ?_; (with_reducible refine (redoubtlaw15_few.calls a0_0 a0_1 a0_2 a0_3 a0_4 a0_5 a0_6 a0_7 a0_8 a1_0 a1_1 a1_2 a1_3 a1_4 true _ A6.out).mono ?_); rintro e w32 ⟨rfl, hb⟩; refine ⟨_, rfl, ?_⟩; have n0_ := Aside0.mk (blk_below (g := gb253) (o := .cells #[.string a0_0, .string a0_1, .string a0_2, .string a0_3, .int .i64 a0_4, .int .i64 a0_5, .int .i64 a0_6, .int .i64 a0_7, .int .i64 a0_8] 37 (0, 0)) (by (with_reducible repeat (first | refine blk_drewN ?_ _ | refine blk_drew ?_ | refine blk_alloc ?_ _)); exact BK253.out) hb); have n1_ := Aside0.mk (blk_below (g := gb254) (o := .cells #[.string a1_0, .string a1_1, .int .i64 a1_2, .int .i64 a1_3, .int .i64 a1_4] 24 (0, 0)) (by (with_reducible repeat (first | refine blk_drewN ?_ _ | refine blk_drew ?_ | refine blk_alloc ?_ _)); exact BK254.out) hb); have n2_ := Aside0.mk (below_step (by repeat (first | (with_reducible first | exact HB.out | apply below_alloc | apply pw_below_drewN | apply below_drew1 | refine below_set ?_ GE253.out | refine below_set ?_ GE254.out) | exact HB.out)) hb); clear BK253; clear BK254; clear HB; have BK253 := n0_; have BK254 := n1_; have HB := n2_; clear n0_ n1_ n2_; (try clear hb); (try clear hb2); (try clear hk); (try clear hi); have hcz33_0 : w32.cell? ⟨gb254, 0, none⟩ = some (.string a1_0) := (blk_cell BK254.out 0).trans rfl; have hcz33_1 : w32.cell? ⟨gb254, 1, none⟩ = some (.string a1_1) := (blk_cell BK254.out 1).trans rfl; have hcz33_2 : w32.cell? ⟨gb254, 2, none⟩ = some (.int .i64 a1_2) := (blk_cell BK254.out 2).trans rfl; have hcz33_3 : w32.cell? ⟨gb254, 3, none⟩ = some (.int .i64 a1_3) := (blk_cell BK254.out 3).trans rfl; have hcz33_4 : w32.cell? ⟨gb254, 4, none⟩ = some (.int .i64 a1_4) := (blk_cell BK254.out 4).trans rfl; have hfz33_0 := blk_frozen BK254.out 0; have hfz33_1 := blk_frozen BK254.out 1; have hfz33_2 := blk_frozen BK254.out 2; have hfz33_3 := blk_frozen BK254.out 3; have hfz33_4 := blk_frozen BK254.out 4))
                  go_meet
                  case rel => exact ⟨_, (true), (by first | rfl | (simp; done) | (simp [*]; done)), H', ⟨by first | omega | exact Nat.le_refl _⟩, ⟨by (with_reducible repeat (first | refine blk_drewN ?_ _ | refine blk_drew ?_ | refine blk_alloc ?_ _)); exact BK253.out⟩, ⟨by (with_reducible repeat (first | refine blk_drewN ?_ _ | refine blk_drew ?_ | refine blk_alloc ?_ _)); exact BK254.out⟩, ⟨by repeat (first | (with_reducible first | exact HB.out | apply below_alloc | apply pw_below_drewN | apply below_drew1 | refine below_set ?_ GE253.out | refine below_set ?_ GE254.out) | exact HB.out)⟩⟩
                · rw [if_neg c28] at H
                  have c28b0 : decide (65535 < a1_3) = false := decide_eq_false c28
                  clear c28
                  by_cases c34 : a1_4 < (-1)
                  · rw [if_pos c34] at H
                    have c34b0 : decide (a1_4 < (-1)) = true := decide_eq_true c34
                    clear c34
                    have H' := Aside0.mk H
                    clear H
                    have hnb35 := NB253_254.out
                    have hnc35 := NB254_253.out
                    have hcz36_0 : w5.cell? ⟨gb253, 0, none⟩ = some (.string a0_0) := (blk_cell BK253.out 0).trans rfl
                    have hcz36_1 : w5.cell? ⟨gb253, 1, none⟩ = some (.string a0_1) := (blk_cell BK253.out 1).trans rfl
                    have hcz36_2 : w5.cell? ⟨gb253, 2, none⟩ = some (.string a0_2) := (blk_cell BK253.out 2).trans rfl
                    have hcz36_3 : w5.cell? ⟨gb253, 3, none⟩ = some (.string a0_3) := (blk_cell BK253.out 3).trans rfl
                    have hcz36_4 : w5.cell? ⟨gb253, 4, none⟩ = some (.int .i64 a0_4) := (blk_cell BK253.out 4).trans rfl
                    have hcz36_5 : w5.cell? ⟨gb253, 5, none⟩ = some (.int .i64 a0_5) := (blk_cell BK253.out 5).trans rfl
                    have hcz36_6 : w5.cell? ⟨gb253, 6, none⟩ = some (.int .i64 a0_6) := (blk_cell BK253.out 6).trans rfl
                    have hcz36_7 : w5.cell? ⟨gb253, 7, none⟩ = some (.int .i64 a0_7) := (blk_cell BK253.out 7).trans rfl
                    have hcz36_8 : w5.cell? ⟨gb253, 8, none⟩ = some (.int .i64 a0_8) := (blk_cell BK253.out 8).trans rfl
                    have hfz36_0 := blk_frozen BK253.out 0
                    have hfz36_1 := blk_frozen BK253.out 1
                    have hfz36_2 := blk_frozen BK253.out 2
                    have hfz36_3 := blk_frozen BK253.out 3
                    have hfz36_4 := blk_frozen BK253.out 4
                    have hfz36_5 := blk_frozen BK253.out 5
                    have hfz36_6 := blk_frozen BK253.out 6
                    have hfz36_7 := blk_frozen BK253.out 7
                    have hfz36_8 := blk_frozen BK253.out 8
                    have hcz37_0 : w5.cell? ⟨gb254, 0, none⟩ = some (.string a1_0) := (blk_cell BK254.out 0).trans rfl
                    have hcz37_1 : w5.cell? ⟨gb254, 1, none⟩ = some (.string a1_1) := (blk_cell BK254.out 1).trans rfl
                    have hcz37_2 : w5.cell? ⟨gb254, 2, none⟩ = some (.int .i64 a1_2) := (blk_cell BK254.out 2).trans rfl
                    have hcz37_3 : w5.cell? ⟨gb254, 3, none⟩ = some (.int .i64 a1_3) := (blk_cell BK254.out 3).trans rfl
                    have hcz37_4 : w5.cell? ⟨gb254, 4, none⟩ = some (.int .i64 a1_4) := (blk_cell BK254.out 4).trans rfl
                    have hfz37_0 := blk_frozen BK254.out 0
                    have hfz37_1 := blk_frozen BK254.out 1
                    have hfz37_2 := blk_frozen BK254.out 2
                    have hfz37_3 := blk_frozen BK254.out 3
                    have hfz37_4 := blk_frozen BK254.out 4
                    go_wp2_with (first | ((with_reducible refine gate_callee (f := 13) rfl ?_); refine goesL_ (some 9) rfl rfl Try.func13 (by kernel_rfl) rfl #[.agg #[.string a0_0, .string a0_1, .string a0_2, .string a0_3, .int .i64 a0_4, .int .i64 a0_5, .int .i64 a0_6, .int .i64 a0_7, .int .i64 a0_8], .agg #[.string a1_0, .string a1_1, .int .i64 a1_2, .int .i64 a1_3, .int .i64 a1_4]] rfl (by (try simp only [List.map_toArray, List.map_cons, List.map_nil]); first | done | rfl | (simp only [List.length_drop, List.length_take]; rfl)) ?_; (with_reducible refine (redoubtlaw15_few.calls a0_0 a0_1 a0_2 a0_3 a0_4 a0_5 a0_6 a0_7 a0_8 a1_0 a1_1 a1_2 a1_3 a1_4 true _ A6.out).mono ?_); rintro e w38 ⟨rfl, hb⟩; refine ⟨_, rfl, ?_⟩; have n0_ := Aside0.mk (blk_below (g := gb253) (o := .cells #[.string a0_0, .string a0_1, .string a0_2, .string a0_3, .int .i64 a0_4, .int .i64 a0_5, .int .i64 a0_6, .int .i64 a0_7, .int .i64 a0_8] 37 (0, 0)) (by (with_reducible repeat (first | refine blk_drewN ?_ _ | refine blk_drew ?_ | refine blk_alloc ?_ _)); exact BK253.out) hb); have n1_ := Aside0.mk (blk_below (g := gb254) (o := .cells #[.string a1_0, .string a1_1, .int .i64 a1_2, .int .i64 a1_3, .int .i64 a1_4] 24 (0, 0)) (by (with_reducible repeat (first | refine blk_drewN ?_ _ | refine blk_drew ?_ | refine blk_alloc ?_ _)); exact BK254.out) hb); have n2_ := Aside0.mk (below_step (by repeat (first | (with_reducible first | exact HB.out | apply below_alloc | apply pw_below_drewN | apply below_drew1 | refine below_set ?_ GE253.out | refine below_set ?_ GE254.out) | exact HB.out)) hb); clear BK253; clear BK254; clear HB; have BK253 := n0_; have BK254 := n1_; have HB := n2_; clear n0_ n1_ n2_; (try clear hb); (try clear hb2); (try clear hk); (try clear hi); have hcz39_0 : w38.cell? ⟨gb254, 0, none⟩ = some (.string a1_0) := (blk_cell BK254.out 0).trans rfl; have hcz39_1 : w38.cell? ⟨gb254, 1, none⟩ = some (.string a1_1) := (blk_cell BK254.out 1).trans rfl; have hcz39_2 : w38.cell? ⟨gb254, 2, none⟩ = some (.int .i64 a1_2) := (blk_cell BK254.out 2).trans rfl; have hcz39_3 : w38.cell? ⟨gb254, 3, none⟩ = some (.int .i64 a1_3) := (blk_cell BK254.out 3).trans rfl; have hcz39_4 : w38.cell? ⟨gb254, 4, none⟩ = some (.int .i64 a1_4) := (blk_cell BK254.out 4).trans rfl; have hfz39_0 := blk_frozen BK254.out 0; have hfz39_1 := blk_frozen BK254.out 1; have hfz39_2 := blk_frozen BK254.out 2; have hfz39_3 := blk_frozen BK254.out 3; have hfz39_4 := blk_frozen BK254.out 4))
                    go_meet
                    case rel => exact ⟨_, (true), (by first | rfl | (simp; done) | (simp [*]; done)), H', ⟨by first | omega | exact Nat.le_refl _⟩, ⟨by (with_reducible repeat (first | refine blk_drewN ?_ _ | refine blk_drew ?_ | refine blk_alloc ?_ _)); exact BK253.out⟩, ⟨by (with_reducible repeat (first | refine blk_drewN ?_ _ | refine blk_drew ?_ | refine blk_alloc ?_ _)); exact BK254.out⟩, ⟨by repeat (first | (with_reducible first | exact HB.out | apply below_alloc | apply pw_below_drewN | apply below_drew1 | refine below_set ?_ GE253.out | refine below_set ?_ GE254.out) | exact HB.out)⟩⟩
                  · rw [if_neg c34] at H
                    have c34b0 : decide (a1_4 < (-1)) = false := decide_eq_false c34
                    clear c34
                    have H' := Aside0.mk H
                    clear H
                    have hnb40 := NB253_254.out
                    have hnc40 := NB254_253.out
                    have hcz41_0 : w5.cell? ⟨gb253, 0, none⟩ = some (.string a0_0) := (blk_cell BK253.out 0).trans rfl
                    have hcz41_1 : w5.cell? ⟨gb253, 1, none⟩ = some (.string a0_1) := (blk_cell BK253.out 1).trans rfl
                    have hcz41_2 : w5.cell? ⟨gb253, 2, none⟩ = some (.string a0_2) := (blk_cell BK253.out 2).trans rfl
                    have hcz41_3 : w5.cell? ⟨gb253, 3, none⟩ = some (.string a0_3) := (blk_cell BK253.out 3).trans rfl
                    have hcz41_4 : w5.cell? ⟨gb253, 4, none⟩ = some (.int .i64 a0_4) := (blk_cell BK253.out 4).trans rfl
                    have hcz41_5 : w5.cell? ⟨gb253, 5, none⟩ = some (.int .i64 a0_5) := (blk_cell BK253.out 5).trans rfl
                    have hcz41_6 : w5.cell? ⟨gb253, 6, none⟩ = some (.int .i64 a0_6) := (blk_cell BK253.out 6).trans rfl
                    have hcz41_7 : w5.cell? ⟨gb253, 7, none⟩ = some (.int .i64 a0_7) := (blk_cell BK253.out 7).trans rfl
                    have hcz41_8 : w5.cell? ⟨gb253, 8, none⟩ = some (.int .i64 a0_8) := (blk_cell BK253.out 8).trans rfl
                    have hfz41_0 := blk_frozen BK253.out 0
                    have hfz41_1 := blk_frozen BK253.out 1
                    have hfz41_2 := blk_frozen BK253.out 2
                    have hfz41_3 := blk_frozen BK253.out 3
                    have hfz41_4 := blk_frozen BK253.out 4
                    have hfz41_5 := blk_frozen BK253.out 5
                    have hfz41_6 := blk_frozen BK253.out 6
                    have hfz41_7 := blk_frozen BK253.out 7
                    have hfz41_8 := blk_frozen BK253.out 8
                    have hcz42_0 : w5.cell? ⟨gb254, 0, none⟩ = some (.string a1_0) := (blk_cell BK254.out 0).trans rfl
                    have hcz42_1 : w5.cell? ⟨gb254, 1, none⟩ = some (.string a1_1) := (blk_cell BK254.out 1).trans rfl
                    have hcz42_2 : w5.cell? ⟨gb254, 2, none⟩ = some (.int .i64 a1_2) := (blk_cell BK254.out 2).trans rfl
                    have hcz42_3 : w5.cell? ⟨gb254, 3, none⟩ = some (.int .i64 a1_3) := (blk_cell BK254.out 3).trans rfl
                    have hcz42_4 : w5.cell? ⟨gb254, 4, none⟩ = some (.int .i64 a1_4) := (blk_cell BK254.out 4).trans rfl
                    have hfz42_0 := blk_frozen BK254.out 0
                    have hfz42_1 := blk_frozen BK254.out 1
                    have hfz42_2 := blk_frozen BK254.out 2
                    have hfz42_3 := blk_frozen BK254.out 3
                    have hfz42_4 := blk_frozen BK254.out 4
                    go_wp2_with (first | ((with_reducible refine gate_callee (f := 13) rfl ?_); refine goesL_ (some 9) rfl rfl Try.func13 (by kernel_rfl) rfl #[.agg #[.string a0_0, .string a0_1, .string a0_2, .string a0_3, .int .i64 a0_4, .int .i64 a0_5, .int .i64 a0_6, .int .i64 a0_7, .int .i64 a0_8], .agg #[.string a1_0, .string a1_1, .int .i64 a1_2, .int .i64 a1_3, .int .i64 a1_4]] rfl (by (try simp only [List.map_toArray, List.map_cons, List.map_nil]); first | done | rfl | (simp only [List.length_drop, List.length_take]; rfl)) ?_; (with_reducible refine (redoubtlaw15_few.calls a0_0 a0_1 a0_2 a0_3 a0_4 a0_5 a0_6 a0_7 a0_8 a1_0 a1_1 a1_2 a1_3 a1_4 true _ A6.out).mono ?_); rintro e w43 ⟨rfl, hb⟩; refine ⟨_, rfl, ?_⟩; have n0_ := Aside0.mk (blk_below (g := gb253) (o := .cells #[.string a0_0, .string a0_1, .string a0_2, .string a0_3, .int .i64 a0_4, .int .i64 a0_5, .int .i64 a0_6, .int .i64 a0_7, .int .i64 a0_8] 37 (0, 0)) (by (with_reducible repeat (first | refine blk_drewN ?_ _ | refine blk_drew ?_ | refine blk_alloc ?_ _)); exact BK253.out) hb); have n1_ := Aside0.mk (blk_below (g := gb254) (o := .cells #[.string a1_0, .string a1_1, .int .i64 a1_2, .int .i64 a1_3, .int .i64 a1_4] 24 (0, 0)) (by (with_reducible repeat (first | refine blk_drewN ?_ _ | refine blk_drew ?_ | refine blk_alloc ?_ _)); exact BK254.out) hb); have n2_ := Aside0.mk (below_step (by repeat (first | (with_reducible first | exact HB.out | apply below_alloc | apply pw_below_drewN | apply below_drew1 | refine below_set ?_ GE253.out | refine below_set ?_ GE254.out) | exact HB.out)) hb); clear BK253; clear BK254; clear HB; have BK253 := n0_; have BK254 := n1_; have HB := n2_; clear n0_ n1_ n2_; (try clear hb); (try clear hb2); (try clear hk); (try clear hi); have hcz44_0 : w43.cell? ⟨gb254, 0, none⟩ = some (.string a1_0) := (blk_cell BK254.out 0).trans rfl; have hcz44_1 : w43.cell? ⟨gb254, 1, none⟩ = some (.string a1_1) := (blk_cell BK254.out 1).trans rfl; have hcz44_2 : w43.cell? ⟨gb254, 2, none⟩ = some (.int .i64 a1_2) := (blk_cell BK254.out 2).trans rfl; have hcz44_3 : w43.cell? ⟨gb254, 3, none⟩ = some (.int .i64 a1_3) := (blk_cell BK254.out 3).trans rfl; have hcz44_4 : w43.cell? ⟨gb254, 4, none⟩ = some (.int .i64 a1_4) := (blk_cell BK254.out 4).trans rfl; have hfz44_0 := blk_frozen BK254.out 0; have hfz44_1 := blk_frozen BK254.out 1; have hfz44_2 := blk_frozen BK254.out 2; have hfz44_3 := blk_frozen BK254.out 3; have hfz44_4 := blk_frozen BK254.out 4))
                    go_meet
                    case rel => exact ⟨_, (decide (a1_4 > 65535)), (by first | rfl | (simp; done) | (simp [*]; done)), H', ⟨by first | omega | exact Nat.le_refl _⟩, ⟨by (with_reducible repeat (first | refine blk_drewN ?_ _ | refine blk_drew ?_ | refine blk_alloc ?_ _)); exact BK253.out⟩, ⟨by (with_reducible repeat (first | refine blk_drewN ?_ _ | refine blk_drew ?_ | refine blk_alloc ?_ _)); exact BK254.out⟩, ⟨by repeat (first | (with_reducible first | exact HB.out | apply below_alloc | apply pw_below_drewN | apply below_drew1 | refine below_set ?_ GE253.out | refine below_set ?_ GE254.out) | exact HB.out)⟩⟩
        · rw [if_neg c9] at H
          have c9b0 : ((a1_0.size : Int) == 4) = false := beq_eq_false_iff_ne.mpr c9
          have c9b1 : ((a1_0.size : Int) != 4) = true := bne_iff_ne.mpr c9
          by_cases c45 : (a1_0.size : Int) = 16
          · rw [if_pos c45] at H
            have c45b0 : ((a1_0.size : Int) == 16) = true := beq_iff_eq.mpr c45
            have c45b1 : ((a1_0.size : Int) != 16) = false := bne_eq_false_iff_eq.mpr c45
            clear c45
            by_cases c46 : a1_2 < 0
            · rw [if_pos c46] at H
              have c46b0 : decide (a1_2 < 0) = true := decide_eq_true c46
              clear c46
              have H' := Aside0.mk H
              clear H
              have hnb47 := NB253_254.out
              have hnc47 := NB254_253.out
              have hcz48_0 : w5.cell? ⟨gb253, 0, none⟩ = some (.string a0_0) := (blk_cell BK253.out 0).trans rfl
              have hcz48_1 : w5.cell? ⟨gb253, 1, none⟩ = some (.string a0_1) := (blk_cell BK253.out 1).trans rfl
              have hcz48_2 : w5.cell? ⟨gb253, 2, none⟩ = some (.string a0_2) := (blk_cell BK253.out 2).trans rfl
              have hcz48_3 : w5.cell? ⟨gb253, 3, none⟩ = some (.string a0_3) := (blk_cell BK253.out 3).trans rfl
              have hcz48_4 : w5.cell? ⟨gb253, 4, none⟩ = some (.int .i64 a0_4) := (blk_cell BK253.out 4).trans rfl
              have hcz48_5 : w5.cell? ⟨gb253, 5, none⟩ = some (.int .i64 a0_5) := (blk_cell BK253.out 5).trans rfl
              have hcz48_6 : w5.cell? ⟨gb253, 6, none⟩ = some (.int .i64 a0_6) := (blk_cell BK253.out 6).trans rfl
              have hcz48_7 : w5.cell? ⟨gb253, 7, none⟩ = some (.int .i64 a0_7) := (blk_cell BK253.out 7).trans rfl
              have hcz48_8 : w5.cell? ⟨gb253, 8, none⟩ = some (.int .i64 a0_8) := (blk_cell BK253.out 8).trans rfl
              have hfz48_0 := blk_frozen BK253.out 0
              have hfz48_1 := blk_frozen BK253.out 1
              have hfz48_2 := blk_frozen BK253.out 2
              have hfz48_3 := blk_frozen BK253.out 3
              have hfz48_4 := blk_frozen BK253.out 4
              have hfz48_5 := blk_frozen BK253.out 5
              have hfz48_6 := blk_frozen BK253.out 6
              have hfz48_7 := blk_frozen BK253.out 7
              have hfz48_8 := blk_frozen BK253.out 8
              have hcz49_0 : w5.cell? ⟨gb254, 0, none⟩ = some (.string a1_0) := (blk_cell BK254.out 0).trans rfl
              have hcz49_1 : w5.cell? ⟨gb254, 1, none⟩ = some (.string a1_1) := (blk_cell BK254.out 1).trans rfl
              have hcz49_2 : w5.cell? ⟨gb254, 2, none⟩ = some (.int .i64 a1_2) := (blk_cell BK254.out 2).trans rfl
              have hcz49_3 : w5.cell? ⟨gb254, 3, none⟩ = some (.int .i64 a1_3) := (blk_cell BK254.out 3).trans rfl
              have hcz49_4 : w5.cell? ⟨gb254, 4, none⟩ = some (.int .i64 a1_4) := (blk_cell BK254.out 4).trans rfl
              have hfz49_0 := blk_frozen BK254.out 0
              have hfz49_1 := blk_frozen BK254.out 1
              have hfz49_2 := blk_frozen BK254.out 2
              have hfz49_3 := blk_frozen BK254.out 3
              have hfz49_4 := blk_frozen BK254.out 4
              go_wp2_with (first | ((with_reducible refine gate_callee (f := 13) rfl ?_); refine goesL_ (some 9) rfl rfl Try.func13 (by kernel_rfl) rfl #[.agg #[.string a0_0, .string a0_1, .string a0_2, .string a0_3, .int .i64 a0_4, .int .i64 a0_5, .int .i64 a0_6, .int .i64 a0_7, .int .i64 a0_8], .agg #[.string a1_0, .string a1_1, .int .i64 a1_2, .int .i64 a1_3, .int .i64 a1_4]] rfl (by (try simp only [List.map_toArray, List.map_cons, List.map_nil]); first | done | rfl | (simp only [List.length_drop, List.length_take]; rfl)) ?_; (with_reducible refine (redoubtlaw15_few.calls a0_0 a0_1 a0_2 a0_3 a0_4 a0_5 a0_6 a0_7 a0_8 a1_0 a1_1 a1_2 a1_3 a1_4 true _ A6.out).mono ?_); rintro e w50 ⟨rfl, hb⟩; refine ⟨_, rfl, ?_⟩; have n0_ := Aside0.mk (blk_below (g := gb253) (o := .cells #[.string a0_0, .string a0_1, .string a0_2, .string a0_3, .int .i64 a0_4, .int .i64 a0_5, .int .i64 a0_6, .int .i64 a0_7, .int .i64 a0_8] 37 (0, 0)) (by (with_reducible repeat (first | refine blk_drewN ?_ _ | refine blk_drew ?_ | refine blk_alloc ?_ _)); exact BK253.out) hb); have n1_ := Aside0.mk (blk_below (g := gb254) (o := .cells #[.string a1_0, .string a1_1, .int .i64 a1_2, .int .i64 a1_3, .int .i64 a1_4] 24 (0, 0)) (by (with_reducible repeat (first | refine blk_drewN ?_ _ | refine blk_drew ?_ | refine blk_alloc ?_ _)); exact BK254.out) hb); have n2_ := Aside0.mk (below_step (by repeat (first | (with_reducible first | exact HB.out | apply below_alloc | apply pw_below_drewN | apply below_drew1 | refine below_set ?_ GE253.out | refine below_set ?_ GE254.out) | exact HB.out)) hb); clear BK253; clear BK254; clear HB; have BK253 := n0_; have BK254 := n1_; have HB := n2_; clear n0_ n1_ n2_; (try clear hb); (try clear hb2); (try clear hk); (try clear hi); have hcz51_0 : w50.cell? ⟨gb254, 0, none⟩ = some (.string a1_0) := (blk_cell BK254.out 0).trans rfl; have hcz51_1 : w50.cell? ⟨gb254, 1, none⟩ = some (.string a1_1) := (blk_cell BK254.out 1).trans rfl; have hcz51_2 : w50.cell? ⟨gb254, 2, none⟩ = some (.int .i64 a1_2) := (blk_cell BK254.out 2).trans rfl; have hcz51_3 : w50.cell? ⟨gb254, 3, none⟩ = some (.int .i64 a1_3) := (blk_cell BK254.out 3).trans rfl; have hcz51_4 : w50.cell? ⟨gb254, 4, none⟩ = some (.int .i64 a1_4) := (blk_cell BK254.out 4).trans rfl; have hfz51_0 := blk_frozen BK254.out 0; have hfz51_1 := blk_frozen BK254.out 1; have hfz51_2 := blk_frozen BK254.out 2; have hfz51_3 := blk_frozen BK254.out 3; have hfz51_4 := blk_frozen BK254.out 4))
              go_meet
              case rel => exact ⟨_, (true), (by first | rfl | (simp; done) | (simp [*]; done)), H', ⟨by first | omega | exact Nat.le_refl _⟩, ⟨by (with_reducible repeat (first | refine blk_drewN ?_ _ | refine blk_drew ?_ | refine blk_alloc ?_ _)); exact BK253.out⟩, ⟨by (with_reducible repeat (first | refine blk_drewN ?_ _ | refine blk_drew ?_ | refine blk_alloc ?_ _)); exact BK254.out⟩, ⟨by repeat (first | (with_reducible first | exact HB.out | apply below_alloc | apply pw_below_drewN | apply below_drew1 | refine below_set ?_ GE253.out | refine below_set ?_ GE254.out) | exact HB.out)⟩⟩
            · rw [if_neg c46] at H
              have c46b0 : decide (a1_2 < 0) = false := decide_eq_false c46
              clear c46
              by_cases c52 : a1_2 > 255
              · rw [if_pos c52] at H
                have c52b0 : decide (255 < a1_2) = true := decide_eq_true c52
                clear c52
                have H' := Aside0.mk H
                clear H
                have hnb53 := NB253_254.out
                have hnc53 := NB254_253.out
                have hcz54_0 : w5.cell? ⟨gb253, 0, none⟩ = some (.string a0_0) := (blk_cell BK253.out 0).trans rfl
                have hcz54_1 : w5.cell? ⟨gb253, 1, none⟩ = some (.string a0_1) := (blk_cell BK253.out 1).trans rfl
                have hcz54_2 : w5.cell? ⟨gb253, 2, none⟩ = some (.string a0_2) := (blk_cell BK253.out 2).trans rfl
                have hcz54_3 : w5.cell? ⟨gb253, 3, none⟩ = some (.string a0_3) := (blk_cell BK253.out 3).trans rfl
                have hcz54_4 : w5.cell? ⟨gb253, 4, none⟩ = some (.int .i64 a0_4) := (blk_cell BK253.out 4).trans rfl
                have hcz54_5 : w5.cell? ⟨gb253, 5, none⟩ = some (.int .i64 a0_5) := (blk_cell BK253.out 5).trans rfl
                have hcz54_6 : w5.cell? ⟨gb253, 6, none⟩ = some (.int .i64 a0_6) := (blk_cell BK253.out 6).trans rfl
                have hcz54_7 : w5.cell? ⟨gb253, 7, none⟩ = some (.int .i64 a0_7) := (blk_cell BK253.out 7).trans rfl
                have hcz54_8 : w5.cell? ⟨gb253, 8, none⟩ = some (.int .i64 a0_8) := (blk_cell BK253.out 8).trans rfl
                have hfz54_0 := blk_frozen BK253.out 0
                have hfz54_1 := blk_frozen BK253.out 1
                have hfz54_2 := blk_frozen BK253.out 2
                have hfz54_3 := blk_frozen BK253.out 3
                have hfz54_4 := blk_frozen BK253.out 4
                have hfz54_5 := blk_frozen BK253.out 5
                have hfz54_6 := blk_frozen BK253.out 6
                have hfz54_7 := blk_frozen BK253.out 7
                have hfz54_8 := blk_frozen BK253.out 8
                have hcz55_0 : w5.cell? ⟨gb254, 0, none⟩ = some (.string a1_0) := (blk_cell BK254.out 0).trans rfl
                have hcz55_1 : w5.cell? ⟨gb254, 1, none⟩ = some (.string a1_1) := (blk_cell BK254.out 1).trans rfl
                have hcz55_2 : w5.cell? ⟨gb254, 2, none⟩ = some (.int .i64 a1_2) := (blk_cell BK254.out 2).trans rfl
                have hcz55_3 : w5.cell? ⟨gb254, 3, none⟩ = some (.int .i64 a1_3) := (blk_cell BK254.out 3).trans rfl
                have hcz55_4 : w5.cell? ⟨gb254, 4, none⟩ = some (.int .i64 a1_4) := (blk_cell BK254.out 4).trans rfl
                have hfz55_0 := blk_frozen BK254.out 0
                have hfz55_1 := blk_frozen BK254.out 1
                have hfz55_2 := blk_frozen BK254.out 2
                have hfz55_3 := blk_frozen BK254.out 3
                have hfz55_4 := blk_frozen BK254.out 4
                go_wp2_with (first | ((with_reducible refine gate_callee (f := 13) rfl ?_); refine goesL_ (some 9) rfl rfl Try.func13 (by kernel_rfl) rfl #[.agg #[.string a0_0, .string a0_1, .string a0_2, .string a0_3, .int .i64 a0_4, .int .i64 a0_5, .int .i64 a0_6, .int .i64 a0_7, .int .i64 a0_8], .agg #[.string a1_0, .string a1_1, .int .i64 a1_2, .int .i64 a1_3, .int .i64 a1_4]] rfl (by (try simp only [List.map_toArray, List.map_cons, List.map_nil]); first | done | rfl | (simp only [List.length_drop, List.length_take]; rfl)) ?_; (with_reducible refine (redoubtlaw15_few.calls a0_0 a0_1 a0_2 a0_3 a0_4 a0_5 a0_6 a0_7 a0_8 a1_0 a1_1 a1_2 a1_3 a1_4 true _ A6.out).mono ?_); rintro e w56 ⟨rfl, hb⟩; refine ⟨_, rfl, ?_⟩; have n0_ := Aside0.mk (blk_below (g := gb253) (o := .cells #[.string a0_0, .string a0_1, .string a0_2, .string a0_3, .int .i64 a0_4, .int .i64 a0_5, .int .i64 a0_6, .int .i64 a0_7, .int .i64 a0_8] 37 (0, 0)) (by (with_reducible repeat (first | refine blk_drewN ?_ _ | refine blk_drew ?_ | refine blk_alloc ?_ _)); exact BK253.out) hb); have n1_ := Aside0.mk (blk_below (g := gb254) (o := .cells #[.string a1_0, .string a1_1, .int .i64 a1_2, .int .i64 a1_3, .int .i64 a1_4] 24 (0, 0)) (by (with_reducible repeat (first | refine blk_drewN ?_ _ | refine blk_drew ?_ | refine blk_alloc ?_ _)); exact BK254.out) hb); have n2_ := Aside0.mk (below_step (by repeat (first | (with_reducible first | exact HB.out | apply below_alloc | apply pw_below_drewN | apply below_drew1 | refine below_set ?_ GE253.out | refine below_set ?_ GE254.out) | exact HB.out)) hb); clear BK253; clear BK254; clear HB; have BK253 := n0_; have BK254 := n1_; have HB := n2_; clear n0_ n1_ n2_; (try clear hb); (try clear hb2); (try clear hk); (try clear hi); have hcz57_0 : w56.cell? ⟨gb254, 0, none⟩ = some (.string a1_0) := (blk_cell BK254.out 0).trans rfl; have hcz57_1 : w56.cell? ⟨gb254, 1, none⟩ = some (.string a1_1) := (blk_cell BK254.out 1).trans rfl; have hcz57_2 : w56.cell? ⟨gb254, 2, none⟩ = some (.int .i64 a1_2) := (blk_cell BK254.out 2).trans rfl; have hcz57_3 : w56.cell? ⟨gb254, 3, none⟩ = some (.int .i64 a1_3) := (blk_cell BK254.out 3).trans rfl; have hcz57_4 : w56.cell? ⟨gb254, 4, none⟩ = some (.int .i64 a1_4) := (blk_cell BK254.out 4).trans rfl; have hfz57_0 := blk_frozen BK254.out 0; have hfz57_1 := blk_frozen BK254.out 1; have hfz57_2 := blk_frozen BK254.out 2; have hfz57_3 := blk_frozen BK254.out 3; have hfz57_4 := blk_frozen BK254.out 4))
                go_meet
                case rel => exact ⟨_, (true), (by first | rfl | (simp; done) | (simp [*]; done)), H', ⟨by first | omega | exact Nat.le_refl _⟩, ⟨by (with_reducible repeat (first | refine blk_drewN ?_ _ | refine blk_drew ?_ | refine blk_alloc ?_ _)); exact BK253.out⟩, ⟨by (with_reducible repeat (first | refine blk_drewN ?_ _ | refine blk_drew ?_ | refine blk_alloc ?_ _)); exact BK254.out⟩, ⟨by repeat (first | (with_reducible first | exact HB.out | apply below_alloc | apply pw_below_drewN | apply below_drew1 | refine below_set ?_ GE253.out | refine below_set ?_ GE254.out) | exact HB.out)⟩⟩
              · rw [if_neg c52] at H
                have c52b0 : decide (255 < a1_2) = false := decide_eq_false c52
                clear c52
                by_cases c58 : a1_3 < (-1)
                · rw [if_pos c58] at H
                  have c58b0 : decide (a1_3 < (-1)) = true := decide_eq_true c58
                  clear c58
                  have H' := Aside0.mk H
                  clear H
                  have hnb59 := NB253_254.out
                  have hnc59 := NB254_253.out
                  have hcz60_0 : w5.cell? ⟨gb253, 0, none⟩ = some (.string a0_0) := (blk_cell BK253.out 0).trans rfl
                  have hcz60_1 : w5.cell? ⟨gb253, 1, none⟩ = some (.string a0_1) := (blk_cell BK253.out 1).trans rfl
                  have hcz60_2 : w5.cell? ⟨gb253, 2, none⟩ = some (.string a0_2) := (blk_cell BK253.out 2).trans rfl
                  have hcz60_3 : w5.cell? ⟨gb253, 3, none⟩ = some (.string a0_3) := (blk_cell BK253.out 3).trans rfl
                  have hcz60_4 : w5.cell? ⟨gb253, 4, none⟩ = some (.int .i64 a0_4) := (blk_cell BK253.out 4).trans rfl
                  have hcz60_5 : w5.cell? ⟨gb253, 5, none⟩ = some (.int .i64 a0_5) := (blk_cell BK253.out 5).trans rfl
                  have hcz60_6 : w5.cell? ⟨gb253, 6, none⟩ = some (.int .i64 a0_6) := (blk_cell BK253.out 6).trans rfl
                  have hcz60_7 : w5.cell? ⟨gb253, 7, none⟩ = some (.int .i64 a0_7) := (blk_cell BK253.out 7).trans rfl
                  have hcz60_8 : w5.cell? ⟨gb253, 8, none⟩ = some (.int .i64 a0_8) := (blk_cell BK253.out 8).trans rfl
                  have hfz60_0 := blk_frozen BK253.out 0
                  have hfz60_1 := blk_frozen BK253.out 1
                  have hfz60_2 := blk_frozen BK253.out 2
                  have hfz60_3 := blk_frozen BK253.out 3
                  have hfz60_4 := blk_frozen BK253.out 4
                  have hfz60_5 := blk_frozen BK253.out 5
                  have hfz60_6 := blk_frozen BK253.out 6
                  have hfz60_7 := blk_frozen BK253.out 7
                  have hfz60_8 := blk_frozen BK253.out 8
                  have hcz61_0 : w5.cell? ⟨gb254, 0, none⟩ = some (.string a1_0) := (blk_cell BK254.out 0).trans rfl
                  have hcz61_1 : w5.cell? ⟨gb254, 1, none⟩ = some (.string a1_1) := (blk_cell BK254.out 1).trans rfl
                  have hcz61_2 : w5.cell? ⟨gb254, 2, none⟩ = some (.int .i64 a1_2) := (blk_cell BK254.out 2).trans rfl
                  have hcz61_3 : w5.cell? ⟨gb254, 3, none⟩ = some (.int .i64 a1_3) := (blk_cell BK254.out 3).trans rfl
                  have hcz61_4 : w5.cell? ⟨gb254, 4, none⟩ = some (.int .i64 a1_4) := (blk_cell BK254.out 4).trans rfl
                  have hfz61_0 := blk_frozen BK254.out 0
                  have hfz61_1 := blk_frozen BK254.out 1
                  have hfz61_2 := blk_frozen BK254.out 2
                  have hfz61_3 := blk_frozen BK254.out 3
                  have hfz61_4 := blk_frozen BK254.out 4
                  go_wp2_with (first | ((with_reducible refine gate_callee (f := 13) rfl ?_); refine goesL_ (some 9) rfl rfl Try.func13 (by kernel_rfl) rfl #[.agg #[.string a0_0, .string a0_1, .string a0_2, .string a0_3, .int .i64 a0_4, .int .i64 a0_5, .int .i64 a0_6, .int .i64 a0_7, .int .i64 a0_8], .agg #[.string a1_0, .string a1_1, .int .i64 a1_2, .int .i64 a1_3, .int .i64 a1_4]] rfl (by (try simp only [List.map_toArray, List.map_cons, List.map_nil]); first | done | rfl | (simp only [List.length_drop, List.length_take]; rfl)) ?_; (with_reducible refine (redoubtlaw15_few.calls a0_0 a0_1 a0_2 a0_3 a0_4 a0_5 a0_6 a0_7 a0_8 a1_0 a1_1 a1_2 a1_3 a1_4 true _ A6.out).mono ?_); rintro e w62 ⟨rfl, hb⟩; refine ⟨_, rfl, ?_⟩; have n0_ := Aside0.mk (blk_below (g := gb253) (o := .cells #[.string a0_0, .string a0_1, .string a0_2, .string a0_3, .int .i64 a0_4, .int .i64 a0_5, .int .i64 a0_6, .int .i64 a0_7, .int .i64 a0_8] 37 (0, 0)) (by (with_reducible repeat (first | refine blk_drewN ?_ _ | refine blk_drew ?_ | refine blk_alloc ?_ _)); exact BK253.out) hb); have n1_ := Aside0.mk (blk_below (g := gb254) (o := .cells #[.string a1_0, .string a1_1, .int .i64 a1_2, .int .i64 a1_3, .int .i64 a1_4] 24 (0, 0)) (by (with_reducible repeat (first | refine blk_drewN ?_ _ | refine blk_drew ?_ | refine blk_alloc ?_ _)); exact BK254.out) hb); have n2_ := Aside0.mk (below_step (by repeat (first | (with_reducible first | exact HB.out | apply below_alloc | apply pw_below_drewN | apply below_drew1 | refine below_set ?_ GE253.out | refine below_set ?_ GE254.out) | exact HB.out)) hb); clear BK253; clear BK254; clear HB; have BK253 := n0_; have BK254 := n1_; have HB := n2_; clear n0_ n1_ n2_; (try clear hb); (try clear hb2); (try clear hk); (try clear hi); have hcz63_0 : w62.cell? ⟨gb254, 0, none⟩ = some (.string a1_0) := (blk_cell BK254.out 0).trans rfl; have hcz63_1 : w62.cell? ⟨gb254, 1, none⟩ = some (.string a1_1) := (blk_cell BK254.out 1).trans rfl; have hcz63_2 : w62.cell? ⟨gb254, 2, none⟩ = some (.int .i64 a1_2) := (blk_cell BK254.out 2).trans rfl; have hcz63_3 : w62.cell? ⟨gb254, 3, none⟩ = some (.int .i64 a1_3) := (blk_cell BK254.out 3).trans rfl; have hcz63_4 : w62.cell? ⟨gb254, 4, none⟩ = some (.int .i64 a1_4) := (blk_cell BK254.out 4).trans rfl; have hfz63_0 := blk_frozen BK254.out 0; have hfz63_1 := blk_frozen BK254.out 1; have hfz63_2 := blk_frozen BK254.out 2; have hfz63_3 := blk_frozen BK254.out 3; have hfz63_4 := blk_frozen BK254.out 4))
                  go_meet
                  case rel => exact ⟨_, (true), (by first | rfl | (simp; done) | (simp [*]; done)), H', ⟨by first | omega | exact Nat.le_refl _⟩, ⟨by (with_reducible repeat (first | refine blk_drewN ?_ _ | refine blk_drew ?_ | refine blk_alloc ?_ _)); exact BK253.out⟩, ⟨by (with_reducible repeat (first | refine blk_drewN ?_ _ | refine blk_drew ?_ | refine blk_alloc ?_ _)); exact BK254.out⟩, ⟨by repeat (first | (with_reducible first | exact HB.out | apply below_alloc | apply pw_below_drewN | apply below_drew1 | refine below_set ?_ GE253.out | refine below_set ?_ GE254.out) | exact HB.out)⟩⟩
                · rw [if_neg c58] at H
                  have c58b0 : decide (a1_3 < (-1)) = false := decide_eq_false c58
                  clear c58
                  by_cases c64 : a1_3 > 65535
                  · rw [if_pos c64] at H
                    have c64b0 : decide (65535 < a1_3) = true := decide_eq_true c64
                    clear c64
                    have H' := Aside0.mk H
                    clear H
                    have hnb65 := NB253_254.out
                    have hnc65 := NB254_253.out
                    have hcz66_0 : w5.cell? ⟨gb253, 0, none⟩ = some (.string a0_0) := (blk_cell BK253.out 0).trans rfl
                    have hcz66_1 : w5.cell? ⟨gb253, 1, none⟩ = some (.string a0_1) := (blk_cell BK253.out 1).trans rfl
                    have hcz66_2 : w5.cell? ⟨gb253, 2, none⟩ = some (.string a0_2) := (blk_cell BK253.out 2).trans rfl
                    have hcz66_3 : w5.cell? ⟨gb253, 3, none⟩ = some (.string a0_3) := (blk_cell BK253.out 3).trans rfl
                    have hcz66_4 : w5.cell? ⟨gb253, 4, none⟩ = some (.int .i64 a0_4) := (blk_cell BK253.out 4).trans rfl
                    have hcz66_5 : w5.cell? ⟨gb253, 5, none⟩ = some (.int .i64 a0_5) := (blk_cell BK253.out 5).trans rfl
                    have hcz66_6 : w5.cell? ⟨gb253, 6, none⟩ = some (.int .i64 a0_6) := (blk_cell BK253.out 6).trans rfl
                    have hcz66_7 : w5.cell? ⟨gb253, 7, none⟩ = some (.int .i64 a0_7) := (blk_cell BK253.out 7).trans rfl
                    have hcz66_8 : w5.cell? ⟨gb253, 8, none⟩ = some (.int .i64 a0_8) := (blk_cell BK253.out 8).trans rfl
                    have hfz66_0 := blk_frozen BK253.out 0
                    have hfz66_1 := blk_frozen BK253.out 1
                    have hfz66_2 := blk_frozen BK253.out 2
                    have hfz66_3 := blk_frozen BK253.out 3
                    have hfz66_4 := blk_frozen BK253.out 4
                    have hfz66_5 := blk_frozen BK253.out 5
                    have hfz66_6 := blk_frozen BK253.out 6
                    have hfz66_7 := blk_frozen BK253.out 7
                    have hfz66_8 := blk_frozen BK253.out 8
                    have hcz67_0 : w5.cell? ⟨gb254, 0, none⟩ = some (.string a1_0) := (blk_cell BK254.out 0).trans rfl
                    have hcz67_1 : w5.cell? ⟨gb254, 1, none⟩ = some (.string a1_1) := (blk_cell BK254.out 1).trans rfl
                    have hcz67_2 : w5.cell? ⟨gb254, 2, none⟩ = some (.int .i64 a1_2) := (blk_cell BK254.out 2).trans rfl
                    have hcz67_3 : w5.cell? ⟨gb254, 3, none⟩ = some (.int .i64 a1_3) := (blk_cell BK254.out 3).trans rfl
                    have hcz67_4 : w5.cell? ⟨gb254, 4, none⟩ = some (.int .i64 a1_4) := (blk_cell BK254.out 4).trans rfl
                    have hfz67_0 := blk_frozen BK254.out 0
                    have hfz67_1 := blk_frozen BK254.out 1
                    have hfz67_2 := blk_frozen BK254.out 2
                    have hfz67_3 := blk_frozen BK254.out 3
                    have hfz67_4 := blk_frozen BK254.out 4
                    go_wp2_with (first | ((with_reducible refine gate_callee (f := 13) rfl ?_); refine goesL_ (some 9) rfl rfl Try.func13 (by kernel_rfl) rfl #[.agg #[.string a0_0, .string a0_1, .string a0_2, .string a0_3, .int .i64 a0_4, .int .i64 a0_5, .int .i64 a0_6, .int .i64 a0_7, .int .i64 a0_8], .agg #[.string a1_0, .string a1_1, .int .i64 a1_2, .int .i64 a1_3, .int .i64 a1_4]] rfl (by (try simp only [List.map_toArray, List.map_cons, List.map_nil]); first | done | rfl | (simp only [List.length_drop, List.length_take]; rfl)) ?_; (with_reducible refine (redoubtlaw15_few.calls a0_0 a0_1 a0_2 a0_3 a0_4 a0_5 a0_6 a0_7 a0_8 a1_0 a1_1 a1_2 a1_3 a1_4 true _ A6.out).mono ?_); rintro e w68 ⟨rfl, hb⟩; refine ⟨_, rfl, ?_⟩; have n0_ := Aside0.mk (blk_below (g := gb253) (o := .cells #[.string a0_0, .string a0_1, .string a0_2, .string a0_3, .int .i64 a0_4, .int .i64 a0_5, .int .i64 a0_6, .int .i64 a0_7, .int .i64 a0_8] 37 (0, 0)) (by (with_reducible repeat (first | refine blk_drewN ?_ _ | refine blk_drew ?_ | refine blk_alloc ?_ _)); exact BK253.out) hb); have n1_ := Aside0.mk (blk_below (g := gb254) (o := .cells #[.string a1_0, .string a1_1, .int .i64 a1_2, .int .i64 a1_3, .int .i64 a1_4] 24 (0, 0)) (by (with_reducible repeat (first | refine blk_drewN ?_ _ | refine blk_drew ?_ | refine blk_alloc ?_ _)); exact BK254.out) hb); have n2_ := Aside0.mk (below_step (by repeat (first | (with_reducible first | exact HB.out | apply below_alloc | apply pw_below_drewN | apply below_drew1 | refine below_set ?_ GE253.out | refine below_set ?_ GE254.out) | exact HB.out)) hb); clear BK253; clear BK254; clear HB; have BK253 := n0_; have BK254 := n1_; have HB := n2_; clear n0_ n1_ n2_; (try clear hb); (try clear hb2); (try clear hk); (try clear hi); have hcz69_0 : w68.cell? ⟨gb254, 0, none⟩ = some (.string a1_0) := (blk_cell BK254.out 0).trans rfl; have hcz69_1 : w68.cell? ⟨gb254, 1, none⟩ = some (.string a1_1) := (blk_cell BK254.out 1).trans rfl; have hcz69_2 : w68.cell? ⟨gb254, 2, none⟩ = some (.int .i64 a1_2) := (blk_cell BK254.out 2).trans rfl; have hcz69_3 : w68.cell? ⟨gb254, 3, none⟩ = some (.int .i64 a1_3) := (blk_cell BK254.out 3).trans rfl; have hcz69_4 : w68.cell? ⟨gb254, 4, none⟩ = some (.int .i64 a1_4) := (blk_cell BK254.out 4).trans rfl; have hfz69_0 := blk_frozen BK254.out 0; have hfz69_1 := blk_frozen BK254.out 1; have hfz69_2 := blk_frozen BK254.out 2; have hfz69_3 := blk_frozen BK254.out 3; have hfz69_4 := blk_frozen BK254.out 4))
                    go_meet
                    case rel => exact ⟨_, (true), (by first | rfl | (simp; done) | (simp [*]; done)), H', ⟨by first | omega | exact Nat.le_refl _⟩, ⟨by (with_reducible repeat (first | refine blk_drewN ?_ _ | refine blk_drew ?_ | refine blk_alloc ?_ _)); exact BK253.out⟩, ⟨by (with_reducible repeat (first | refine blk_drewN ?_ _ | refine blk_drew ?_ | refine blk_alloc ?_ _)); exact BK254.out⟩, ⟨by repeat (first | (with_reducible first | exact HB.out | apply below_alloc | apply pw_below_drewN | apply below_drew1 | refine below_set ?_ GE253.out | refine below_set ?_ GE254.out) | exact HB.out)⟩⟩
                  · rw [if_neg c64] at H
                    have c64b0 : decide (65535 < a1_3) = false := decide_eq_false c64
                    clear c64
                    by_cases c70 : a1_4 < (-1)
                    · rw [if_pos c70] at H
                      have c70b0 : decide (a1_4 < (-1)) = true := decide_eq_true c70
                      clear c70
                      have H' := Aside0.mk H
                      clear H
                      have hnb71 := NB253_254.out
                      have hnc71 := NB254_253.out
                      have hcz72_0 : w5.cell? ⟨gb253, 0, none⟩ = some (.string a0_0) := (blk_cell BK253.out 0).trans rfl
                      have hcz72_1 : w5.cell? ⟨gb253, 1, none⟩ = some (.string a0_1) := (blk_cell BK253.out 1).trans rfl
                      have hcz72_2 : w5.cell? ⟨gb253, 2, none⟩ = some (.string a0_2) := (blk_cell BK253.out 2).trans rfl
                      have hcz72_3 : w5.cell? ⟨gb253, 3, none⟩ = some (.string a0_3) := (blk_cell BK253.out 3).trans rfl
                      have hcz72_4 : w5.cell? ⟨gb253, 4, none⟩ = some (.int .i64 a0_4) := (blk_cell BK253.out 4).trans rfl
                      have hcz72_5 : w5.cell? ⟨gb253, 5, none⟩ = some (.int .i64 a0_5) := (blk_cell BK253.out 5).trans rfl
                      have hcz72_6 : w5.cell? ⟨gb253, 6, none⟩ = some (.int .i64 a0_6) := (blk_cell BK253.out 6).trans rfl
                      have hcz72_7 : w5.cell? ⟨gb253, 7, none⟩ = some (.int .i64 a0_7) := (blk_cell BK253.out 7).trans rfl
                      have hcz72_8 : w5.cell? ⟨gb253, 8, none⟩ = some (.int .i64 a0_8) := (blk_cell BK253.out 8).trans rfl
                      have hfz72_0 := blk_frozen BK253.out 0
                      have hfz72_1 := blk_frozen BK253.out 1
                      have hfz72_2 := blk_frozen BK253.out 2
                      have hfz72_3 := blk_frozen BK253.out 3
                      have hfz72_4 := blk_frozen BK253.out 4
                      have hfz72_5 := blk_frozen BK253.out 5
                      have hfz72_6 := blk_frozen BK253.out 6
                      have hfz72_7 := blk_frozen BK253.out 7
                      have hfz72_8 := blk_frozen BK253.out 8
                      have hcz73_0 : w5.cell? ⟨gb254, 0, none⟩ = some (.string a1_0) := (blk_cell BK254.out 0).trans rfl
                      have hcz73_1 : w5.cell? ⟨gb254, 1, none⟩ = some (.string a1_1) := (blk_cell BK254.out 1).trans rfl
                      have hcz73_2 : w5.cell? ⟨gb254, 2, none⟩ = some (.int .i64 a1_2) := (blk_cell BK254.out 2).trans rfl
                      have hcz73_3 : w5.cell? ⟨gb254, 3, none⟩ = some (.int .i64 a1_3) := (blk_cell BK254.out 3).trans rfl
                      have hcz73_4 : w5.cell? ⟨gb254, 4, none⟩ = some (.int .i64 a1_4) := (blk_cell BK254.out 4).trans rfl
                      have hfz73_0 := blk_frozen BK254.out 0
                      have hfz73_1 := blk_frozen BK254.out 1
                      have hfz73_2 := blk_frozen BK254.out 2
                      have hfz73_3 := blk_frozen BK254.out 3
                      have hfz73_4 := blk_frozen BK254.out 4
                      go_wp2_with (first | ((with_reducible refine gate_callee (f := 13) rfl ?_); refine goesL_ (some 9) rfl rfl Try.func13 (by kernel_rfl) rfl #[.agg #[.string a0_0, .string a0_1, .string a0_2, .string a0_3, .int .i64 a0_4, .int .i64 a0_5, .int .i64 a0_6, .int .i64 a0_7, .int .i64 a0_8], .agg #[.string a1_0, .string a1_1, .int .i64 a1_2, .int .i64 a1_3, .int .i64 a1_4]] rfl (by (try simp only [List.map_toArray, List.map_cons, List.map_nil]); first | done | rfl | (simp only [List.length_drop, List.length_take]; rfl)) ?_; (with_reducible refine (redoubtlaw15_few.calls a0_0 a0_1 a0_2 a0_3 a0_4 a0_5 a0_6 a0_7 a0_8 a1_0 a1_1 a1_2 a1_3 a1_4 true _ A6.out).mono ?_); rintro e w74 ⟨rfl, hb⟩; refine ⟨_, rfl, ?_⟩; have n0_ := Aside0.mk (blk_below (g := gb253) (o := .cells #[.string a0_0, .string a0_1, .string a0_2, .string a0_3, .int .i64 a0_4, .int .i64 a0_5, .int .i64 a0_6, .int .i64 a0_7, .int .i64 a0_8] 37 (0, 0)) (by (with_reducible repeat (first | refine blk_drewN ?_ _ | refine blk_drew ?_ | refine blk_alloc ?_ _)); exact BK253.out) hb); have n1_ := Aside0.mk (blk_below (g := gb254) (o := .cells #[.string a1_0, .string a1_1, .int .i64 a1_2, .int .i64 a1_3, .int .i64 a1_4] 24 (0, 0)) (by (with_reducible repeat (first | refine blk_drewN ?_ _ | refine blk_drew ?_ | refine blk_alloc ?_ _)); exact BK254.out) hb); have n2_ := Aside0.mk (below_step (by repeat (first | (with_reducible first | exact HB.out | apply below_alloc | apply pw_below_drewN | apply below_drew1 | refine below_set ?_ GE253.out | refine below_set ?_ GE254.out) | exact HB.out)) hb); clear BK253; clear BK254; clear HB; have BK253 := n0_; have BK254 := n1_; have HB := n2_; clear n0_ n1_ n2_; (try clear hb); (try clear hb2); (try clear hk); (try clear hi); have hcz75_0 : w74.cell? ⟨gb254, 0, none⟩ = some (.string a1_0) := (blk_cell BK254.out 0).trans rfl; have hcz75_1 : w74.cell? ⟨gb254, 1, none⟩ = some (.string a1_1) := (blk_cell BK254.out 1).trans rfl; have hcz75_2 : w74.cell? ⟨gb254, 2, none⟩ = some (.int .i64 a1_2) := (blk_cell BK254.out 2).trans rfl; have hcz75_3 : w74.cell? ⟨gb254, 3, none⟩ = some (.int .i64 a1_3) := (blk_cell BK254.out 3).trans rfl; have hcz75_4 : w74.cell? ⟨gb254, 4, none⟩ = some (.int .i64 a1_4) := (blk_cell BK254.out 4).trans rfl; have hfz75_0 := blk_frozen BK254.out 0; have hfz75_1 := blk_frozen BK254.out 1; have hfz75_2 := blk_frozen BK254.out 2; have hfz75_3 := blk_frozen BK254.out 3; have hfz75_4 := blk_frozen BK254.out 4))
                      go_meet
                      case rel => exact ⟨_, (true), (by first | rfl | (simp; done) | (simp [*]; done)), H', ⟨by first | omega | exact Nat.le_refl _⟩, ⟨by (with_reducible repeat (first | refine blk_drewN ?_ _ | refine blk_drew ?_ | refine blk_alloc ?_ _)); exact BK253.out⟩, ⟨by (with_reducible repeat (first | refine blk_drewN ?_ _ | refine blk_drew ?_ | refine blk_alloc ?_ _)); exact BK254.out⟩, ⟨by repeat (first | (with_reducible first | exact HB.out | apply below_alloc | apply pw_below_drewN | apply below_drew1 | refine below_set ?_ GE253.out | refine below_set ?_ GE254.out) | exact HB.out)⟩⟩
                    · rw [if_neg c70] at H
                      have c70b0 : decide (a1_4 < (-1)) = false := decide_eq_false c70
                      clear c70
                      have H' := Aside0.mk H
                      clear H
                      have hnb76 := NB253_254.out
                      have hnc76 := NB254_253.out
                      have hcz77_0 : w5.cell? ⟨gb253, 0, none⟩ = some (.string a0_0) := (blk_cell BK253.out 0).trans rfl
                      have hcz77_1 : w5.cell? ⟨gb253, 1, none⟩ = some (.string a0_1) := (blk_cell BK253.out 1).trans rfl
                      have hcz77_2 : w5.cell? ⟨gb253, 2, none⟩ = some (.string a0_2) := (blk_cell BK253.out 2).trans rfl
                      have hcz77_3 : w5.cell? ⟨gb253, 3, none⟩ = some (.string a0_3) := (blk_cell BK253.out 3).trans rfl
                      have hcz77_4 : w5.cell? ⟨gb253, 4, none⟩ = some (.int .i64 a0_4) := (blk_cell BK253.out 4).trans rfl
                      have hcz77_5 : w5.cell? ⟨gb253, 5, none⟩ = some (.int .i64 a0_5) := (blk_cell BK253.out 5).trans rfl
                      have hcz77_6 : w5.cell? ⟨gb253, 6, none⟩ = some (.int .i64 a0_6) := (blk_cell BK253.out 6).trans rfl
                      have hcz77_7 : w5.cell? ⟨gb253, 7, none⟩ = some (.int .i64 a0_7) := (blk_cell BK253.out 7).trans rfl
                      have hcz77_8 : w5.cell? ⟨gb253, 8, none⟩ = some (.int .i64 a0_8) := (blk_cell BK253.out 8).trans rfl
                      have hfz77_0 := blk_frozen BK253.out 0
                      have hfz77_1 := blk_frozen BK253.out 1
                      have hfz77_2 := blk_frozen BK253.out 2
                      have hfz77_3 := blk_frozen BK253.out 3
                      have hfz77_4 := blk_frozen BK253.out 4
                      have hfz77_5 := blk_frozen BK253.out 5
                      have hfz77_6 := blk_frozen BK253.out 6
                      have hfz77_7 := blk_frozen BK253.out 7
                      have hfz77_8 := blk_frozen BK253.out 8
                      have hcz78_0 : w5.cell? ⟨gb254, 0, none⟩ = some (.string a1_0) := (blk_cell BK254.out 0).trans rfl
                      have hcz78_1 : w5.cell? ⟨gb254, 1, none⟩ = some (.string a1_1) := (blk_cell BK254.out 1).trans rfl
                      have hcz78_2 : w5.cell? ⟨gb254, 2, none⟩ = some (.int .i64 a1_2) := (blk_cell BK254.out 2).trans rfl
                      have hcz78_3 : w5.cell? ⟨gb254, 3, none⟩ = some (.int .i64 a1_3) := (blk_cell BK254.out 3).trans rfl
                      have hcz78_4 : w5.cell? ⟨gb254, 4, none⟩ = some (.int .i64 a1_4) := (blk_cell BK254.out 4).trans rfl
                      have hfz78_0 := blk_frozen BK254.out 0
                      have hfz78_1 := blk_frozen BK254.out 1
                      have hfz78_2 := blk_frozen BK254.out 2
                      have hfz78_3 := blk_frozen BK254.out 3
                      have hfz78_4 := blk_frozen BK254.out 4
                      go_wp2_with (first | ((with_reducible refine gate_callee (f := 13) rfl ?_); refine goesL_ (some 9) rfl rfl Try.func13 (by kernel_rfl) rfl #[.agg #[.string a0_0, .string a0_1, .string a0_2, .string a0_3, .int .i64 a0_4, .int .i64 a0_5, .int .i64 a0_6, .int .i64 a0_7, .int .i64 a0_8], .agg #[.string a1_0, .string a1_1, .int .i64 a1_2, .int .i64 a1_3, .int .i64 a1_4]] rfl (by (try simp only [List.map_toArray, List.map_cons, List.map_nil]); first | done | rfl | (simp only [List.length_drop, List.length_take]; rfl)) ?_; (with_reducible refine (redoubtlaw15_few.calls a0_0 a0_1 a0_2 a0_3 a0_4 a0_5 a0_6 a0_7 a0_8 a1_0 a1_1 a1_2 a1_3 a1_4 true _ A6.out).mono ?_); rintro e w79 ⟨rfl, hb⟩; refine ⟨_, rfl, ?_⟩; have n0_ := Aside0.mk (blk_below (g := gb253) (o := .cells #[.string a0_0, .string a0_1, .string a0_2, .string a0_3, .int .i64 a0_4, .int .i64 a0_5, .int .i64 a0_6, .int .i64 a0_7, .int .i64 a0_8] 37 (0, 0)) (by (with_reducible repeat (first | refine blk_drewN ?_ _ | refine blk_drew ?_ | refine blk_alloc ?_ _)); exact BK253.out) hb); have n1_ := Aside0.mk (blk_below (g := gb254) (o := .cells #[.string a1_0, .string a1_1, .int .i64 a1_2, .int .i64 a1_3, .int .i64 a1_4] 24 (0, 0)) (by (with_reducible repeat (first | refine blk_drewN ?_ _ | refine blk_drew ?_ | refine blk_alloc ?_ _)); exact BK254.out) hb); have n2_ := Aside0.mk (below_step (by repeat (first | (with_reducible first | exact HB.out | apply below_alloc | apply pw_below_drewN | apply below_drew1 | refine below_set ?_ GE253.out | refine below_set ?_ GE254.out) | exact HB.out)) hb); clear BK253; clear BK254; clear HB; have BK253 := n0_; have BK254 := n1_; have HB := n2_; clear n0_ n1_ n2_; (try clear hb); (try clear hb2); (try clear hk); (try clear hi); have hcz80_0 : w79.cell? ⟨gb254, 0, none⟩ = some (.string a1_0) := (blk_cell BK254.out 0).trans rfl; have hcz80_1 : w79.cell? ⟨gb254, 1, none⟩ = some (.string a1_1) := (blk_cell BK254.out 1).trans rfl; have hcz80_2 : w79.cell? ⟨gb254, 2, none⟩ = some (.int .i64 a1_2) := (blk_cell BK254.out 2).trans rfl; have hcz80_3 : w79.cell? ⟨gb254, 3, none⟩ = some (.int .i64 a1_3) := (blk_cell BK254.out 3).trans rfl; have hcz80_4 : w79.cell? ⟨gb254, 4, none⟩ = some (.int .i64 a1_4) := (blk_cell BK254.out 4).trans rfl; have hfz80_0 := blk_frozen BK254.out 0; have hfz80_1 := blk_frozen BK254.out 1; have hfz80_2 := blk_frozen BK254.out 2; have hfz80_3 := blk_frozen BK254.out 3; have hfz80_4 := blk_frozen BK254.out 4))
                      go_meet
                      case rel => exact ⟨_, (decide (a1_4 > 65535)), (by first | rfl | (simp; done) | (simp [*]; done)), H', ⟨by first | omega | exact Nat.le_refl _⟩, ⟨by (with_reducible repeat (first | refine blk_drewN ?_ _ | refine blk_drew ?_ | refine blk_alloc ?_ _)); exact BK253.out⟩, ⟨by (with_reducible repeat (first | refine blk_drewN ?_ _ | refine blk_drew ?_ | refine blk_alloc ?_ _)); exact BK254.out⟩, ⟨by repeat (first | (with_reducible first | exact HB.out | apply below_alloc | apply pw_below_drewN | apply below_drew1 | refine below_set ?_ GE253.out | refine below_set ?_ GE254.out) | exact HB.out)⟩⟩
          · rw [if_neg c45] at H
            have c45b0 : ((a1_0.size : Int) == 16) = false := beq_eq_false_iff_ne.mpr c45
            have c45b1 : ((a1_0.size : Int) != 16) = true := bne_iff_ne.mpr c45
            have H' := Aside0.mk H
            clear H
            have hnb81 := NB253_254.out
            have hnc81 := NB254_253.out
            have hcz82_0 : w5.cell? ⟨gb253, 0, none⟩ = some (.string a0_0) := (blk_cell BK253.out 0).trans rfl
            have hcz82_1 : w5.cell? ⟨gb253, 1, none⟩ = some (.string a0_1) := (blk_cell BK253.out 1).trans rfl
            have hcz82_2 : w5.cell? ⟨gb253, 2, none⟩ = some (.string a0_2) := (blk_cell BK253.out 2).trans rfl
            have hcz82_3 : w5.cell? ⟨gb253, 3, none⟩ = some (.string a0_3) := (blk_cell BK253.out 3).trans rfl
            have hcz82_4 : w5.cell? ⟨gb253, 4, none⟩ = some (.int .i64 a0_4) := (blk_cell BK253.out 4).trans rfl
            have hcz82_5 : w5.cell? ⟨gb253, 5, none⟩ = some (.int .i64 a0_5) := (blk_cell BK253.out 5).trans rfl
            have hcz82_6 : w5.cell? ⟨gb253, 6, none⟩ = some (.int .i64 a0_6) := (blk_cell BK253.out 6).trans rfl
            have hcz82_7 : w5.cell? ⟨gb253, 7, none⟩ = some (.int .i64 a0_7) := (blk_cell BK253.out 7).trans rfl
            have hcz82_8 : w5.cell? ⟨gb253, 8, none⟩ = some (.int .i64 a0_8) := (blk_cell BK253.out 8).trans rfl
            have hfz82_0 := blk_frozen BK253.out 0
            have hfz82_1 := blk_frozen BK253.out 1
            have hfz82_2 := blk_frozen BK253.out 2
            have hfz82_3 := blk_frozen BK253.out 3
            have hfz82_4 := blk_frozen BK253.out 4
            have hfz82_5 := blk_frozen BK253.out 5
            have hfz82_6 := blk_frozen BK253.out 6
            have hfz82_7 := blk_frozen BK253.out 7
            have hfz82_8 := blk_frozen BK253.out 8
            have hcz83_0 : w5.cell? ⟨gb254, 0, none⟩ = some (.string a1_0) := (blk_cell BK254.out 0).trans rfl
            have hcz83_1 : w5.cell? ⟨gb254, 1, none⟩ = some (.string a1_1) := (blk_cell BK254.out 1).trans rfl
            have hcz83_2 : w5.cell? ⟨gb254, 2, none⟩ = some (.int .i64 a1_2) := (blk_cell BK254.out 2).trans rfl
            have hcz83_3 : w5.cell? ⟨gb254, 3, none⟩ = some (.int .i64 a1_3) := (blk_cell BK254.out 3).trans rfl
            have hcz83_4 : w5.cell? ⟨gb254, 4, none⟩ = some (.int .i64 a1_4) := (blk_cell BK254.out 4).trans rfl
            have hfz83_0 := blk_frozen BK254.out 0
            have hfz83_1 := blk_frozen BK254.out 1
            have hfz83_2 := blk_frozen BK254.out 2
            have hfz83_3 := blk_frozen BK254.out 3
            have hfz83_4 := blk_frozen BK254.out 4
            go_wp2_with (first | ((with_reducible refine gate_callee (f := 13) rfl ?_); refine goesL_ (some 9) rfl rfl Try.func13 (by kernel_rfl) rfl #[.agg #[.string a0_0, .string a0_1, .string a0_2, .string a0_3, .int .i64 a0_4, .int .i64 a0_5, .int .i64 a0_6, .int .i64 a0_7, .int .i64 a0_8], .agg #[.string a1_0, .string a1_1, .int .i64 a1_2, .int .i64 a1_3, .int .i64 a1_4]] rfl (by (try simp only [List.map_toArray, List.map_cons, List.map_nil]); first | done | rfl | (simp only [List.length_drop, List.length_take]; rfl)) ?_; (with_reducible refine (redoubtlaw15_few.calls a0_0 a0_1 a0_2 a0_3 a0_4 a0_5 a0_6 a0_7 a0_8 a1_0 a1_1 a1_2 a1_3 a1_4 true _ A6.out).mono ?_); rintro e w84 ⟨rfl, hb⟩; refine ⟨_, rfl, ?_⟩; have n0_ := Aside0.mk (blk_below (g := gb253) (o := .cells #[.string a0_0, .string a0_1, .string a0_2, .string a0_3, .int .i64 a0_4, .int .i64 a0_5, .int .i64 a0_6, .int .i64 a0_7, .int .i64 a0_8] 37 (0, 0)) (by (with_reducible repeat (first | refine blk_drewN ?_ _ | refine blk_drew ?_ | refine blk_alloc ?_ _)); exact BK253.out) hb); have n1_ := Aside0.mk (blk_below (g := gb254) (o := .cells #[.string a1_0, .string a1_1, .int .i64 a1_2, .int .i64 a1_3, .int .i64 a1_4] 24 (0, 0)) (by (with_reducible repeat (first | refine blk_drewN ?_ _ | refine blk_drew ?_ | refine blk_alloc ?_ _)); exact BK254.out) hb); have n2_ := Aside0.mk (below_step (by repeat (first | (with_reducible first | exact HB.out | apply below_alloc | apply pw_below_drewN | apply below_drew1 | refine below_set ?_ GE253.out | refine below_set ?_ GE254.out) | exact HB.out)) hb); clear BK253; clear BK254; clear HB; have BK253 := n0_; have BK254 := n1_; have HB := n2_; clear n0_ n1_ n2_; (try clear hb); (try clear hb2); (try clear hk); (try clear hi); have hcz85_0 : w84.cell? ⟨gb254, 0, none⟩ = some (.string a1_0) := (blk_cell BK254.out 0).trans rfl; have hcz85_1 : w84.cell? ⟨gb254, 1, none⟩ = some (.string a1_1) := (blk_cell BK254.out 1).trans rfl; have hcz85_2 : w84.cell? ⟨gb254, 2, none⟩ = some (.int .i64 a1_2) := (blk_cell BK254.out 2).trans rfl; have hcz85_3 : w84.cell? ⟨gb254, 3, none⟩ = some (.int .i64 a1_3) := (blk_cell BK254.out 3).trans rfl; have hcz85_4 : w84.cell? ⟨gb254, 4, none⟩ = some (.int .i64 a1_4) := (blk_cell BK254.out 4).trans rfl; have hfz85_0 := blk_frozen BK254.out 0; have hfz85_1 := blk_frozen BK254.out 1; have hfz85_2 := blk_frozen BK254.out 2; have hfz85_3 := blk_frozen BK254.out 3; have hfz85_4 := blk_frozen BK254.out 4))
            go_meet
            case rel => exact ⟨_, (true), (by first | rfl | (simp; done) | (simp [*]; done)), H', ⟨by first | omega | exact Nat.le_refl _⟩, ⟨by (with_reducible repeat (first | refine blk_drewN ?_ _ | refine blk_drew ?_ | refine blk_alloc ?_ _)); exact BK253.out⟩, ⟨by (with_reducible repeat (first | refine blk_drewN ?_ _ | refine blk_drew ?_ | refine blk_alloc ?_ _)); exact BK254.out⟩, ⟨by repeat (first | (with_reducible first | exact HB.out | apply below_alloc | apply pw_below_drewN | apply below_drew1 | refine below_set ?_ GE253.out | refine below_set ?_ GE254.out) | exact HB.out)⟩⟩
      · rw [if_neg c8] at H
        have c8b0 : ((a1_0.size : Int) == (a1_1.size : Int)) = false := beq_eq_false_iff_ne.mpr c8
        have c8b1 : ((a1_0.size : Int) != (a1_1.size : Int)) = true := bne_iff_ne.mpr c8
        have c8b2 : (a1_0.size == a1_1.size) = false := by first | simpa using c8 | (simp at c8 ⊢; omega)
        (first | rw [c8b0] | (simp only [i64_w, i32_w]; rw [c8b0]) | skip)
        have H' := Aside0.mk H
        clear H
        have hnb86 := NB253_254.out
        have hnc86 := NB254_253.out
        have hcz87_0 : w5.cell? ⟨gb253, 0, none⟩ = some (.string a0_0) := (blk_cell BK253.out 0).trans rfl
        have hcz87_1 : w5.cell? ⟨gb253, 1, none⟩ = some (.string a0_1) := (blk_cell BK253.out 1).trans rfl
        have hcz87_2 : w5.cell? ⟨gb253, 2, none⟩ = some (.string a0_2) := (blk_cell BK253.out 2).trans rfl
        have hcz87_3 : w5.cell? ⟨gb253, 3, none⟩ = some (.string a0_3) := (blk_cell BK253.out 3).trans rfl
        have hcz87_4 : w5.cell? ⟨gb253, 4, none⟩ = some (.int .i64 a0_4) := (blk_cell BK253.out 4).trans rfl
        have hcz87_5 : w5.cell? ⟨gb253, 5, none⟩ = some (.int .i64 a0_5) := (blk_cell BK253.out 5).trans rfl
        have hcz87_6 : w5.cell? ⟨gb253, 6, none⟩ = some (.int .i64 a0_6) := (blk_cell BK253.out 6).trans rfl
        have hcz87_7 : w5.cell? ⟨gb253, 7, none⟩ = some (.int .i64 a0_7) := (blk_cell BK253.out 7).trans rfl
        have hcz87_8 : w5.cell? ⟨gb253, 8, none⟩ = some (.int .i64 a0_8) := (blk_cell BK253.out 8).trans rfl
        have hfz87_0 := blk_frozen BK253.out 0
        have hfz87_1 := blk_frozen BK253.out 1
        have hfz87_2 := blk_frozen BK253.out 2
        have hfz87_3 := blk_frozen BK253.out 3
        have hfz87_4 := blk_frozen BK253.out 4
        have hfz87_5 := blk_frozen BK253.out 5
        have hfz87_6 := blk_frozen BK253.out 6
        have hfz87_7 := blk_frozen BK253.out 7
        have hfz87_8 := blk_frozen BK253.out 8
        have hcz88_0 : w5.cell? ⟨gb254, 0, none⟩ = some (.string a1_0) := (blk_cell BK254.out 0).trans rfl
        have hcz88_1 : w5.cell? ⟨gb254, 1, none⟩ = some (.string a1_1) := (blk_cell BK254.out 1).trans rfl
        have hcz88_2 : w5.cell? ⟨gb254, 2, none⟩ = some (.int .i64 a1_2) := (blk_cell BK254.out 2).trans rfl
        have hcz88_3 : w5.cell? ⟨gb254, 3, none⟩ = some (.int .i64 a1_3) := (blk_cell BK254.out 3).trans rfl
        have hcz88_4 : w5.cell? ⟨gb254, 4, none⟩ = some (.int .i64 a1_4) := (blk_cell BK254.out 4).trans rfl
        have hfz88_0 := blk_frozen BK254.out 0
        have hfz88_1 := blk_frozen BK254.out 1
        have hfz88_2 := blk_frozen BK254.out 2
        have hfz88_3 := blk_frozen BK254.out 3
        have hfz88_4 := blk_frozen BK254.out 4
        go_wp2_with (first | ((with_reducible refine gate_callee (f := 13) rfl ?_); refine goesL_ (some 9) rfl rfl Try.func13 (by kernel_rfl) rfl #[.agg #[.string a0_0, .string a0_1, .string a0_2, .string a0_3, .int .i64 a0_4, .int .i64 a0_5, .int .i64 a0_6, .int .i64 a0_7, .int .i64 a0_8], .agg #[.string a1_0, .string a1_1, .int .i64 a1_2, .int .i64 a1_3, .int .i64 a1_4]] rfl (by (try simp only [List.map_toArray, List.map_cons, List.map_nil]); first | done | rfl | (simp only [List.length_drop, List.length_take]; rfl)) ?_; (with_reducible refine (redoubtlaw15_few.calls a0_0 a0_1 a0_2 a0_3 a0_4 a0_5 a0_6 a0_7 a0_8 a1_0 a1_1 a1_2 a1_3 a1_4 true _ A6.out).mono ?_); rintro e w89 ⟨rfl, hb⟩; refine ⟨_, rfl, ?_⟩; have n0_ := Aside0.mk (blk_below (g := gb253) (o := .cells #[.string a0_0, .string a0_1, .string a0_2, .string a0_3, .int .i64 a0_4, .int .i64 a0_5, .int .i64 a0_6, .int .i64 a0_7, .int .i64 a0_8] 37 (0, 0)) (by (with_reducible repeat (first | refine blk_drewN ?_ _ | refine blk_drew ?_ | refine blk_alloc ?_ _)); exact BK253.out) hb); have n1_ := Aside0.mk (blk_below (g := gb254) (o := .cells #[.string a1_0, .string a1_1, .int .i64 a1_2, .int .i64 a1_3, .int .i64 a1_4] 24 (0, 0)) (by (with_reducible repeat (first | refine blk_drewN ?_ _ | refine blk_drew ?_ | refine blk_alloc ?_ _)); exact BK254.out) hb); have n2_ := Aside0.mk (below_step (by repeat (first | (with_reducible first | exact HB.out | apply below_alloc | apply pw_below_drewN | apply below_drew1 | refine below_set ?_ GE253.out | refine below_set ?_ GE254.out) | exact HB.out)) hb); clear BK253; clear BK254; clear HB; have BK253 := n0_; have BK254 := n1_; have HB := n2_; clear n0_ n1_ n2_; (try clear hb); (try clear hb2); (try clear hk); (try clear hi); have hcz90_0 : w89.cell? ⟨gb254, 0, none⟩ = some (.string a1_0) := (blk_cell BK254.out 0).trans rfl; have hcz90_1 : w89.cell? ⟨gb254, 1, none⟩ = some (.string a1_1) := (blk_cell BK254.out 1).trans rfl; have hcz90_2 : w89.cell? ⟨gb254, 2, none⟩ = some (.int .i64 a1_2) := (blk_cell BK254.out 2).trans rfl; have hcz90_3 : w89.cell? ⟨gb254, 3, none⟩ = some (.int .i64 a1_3) := (blk_cell BK254.out 3).trans rfl; have hcz90_4 : w89.cell? ⟨gb254, 4, none⟩ = some (.int .i64 a1_4) := (blk_cell BK254.out 4).trans rfl; have hfz90_0 := blk_frozen BK254.out 0; have hfz90_1 := blk_frozen BK254.out 1; have hfz90_2 := blk_frozen BK254.out 2; have hfz90_3 := blk_frozen BK254.out 3; have hfz90_4 := blk_frozen BK254.out 4))
        go_meet
        case rel => exact ⟨_, (true), (by first | rfl | (simp; done) | (simp [*]; done)), H', ⟨by first | omega | exact Nat.le_refl _⟩, ⟨by (with_reducible repeat (first | refine blk_drewN ?_ _ | refine blk_drew ?_ | refine blk_alloc ?_ _)); exact BK253.out⟩, ⟨by (with_reducible repeat (first | refine blk_drewN ?_ _ | refine blk_drew ?_ | refine blk_alloc ?_ _)); exact BK254.out⟩, ⟨by repeat (first | (with_reducible first | exact HB.out | apply below_alloc | apply pw_below_drewN | apply below_drew1 | refine below_set ?_ GE253.out | refine below_set ?_ GE254.out) | exact HB.out)⟩⟩
    · replace c7 := Bool.eq_false_iff.mpr c7
      subst c7
      have H1 : (redoubtlaw15_PickNone.j0 k true a0_0 a0_1 a0_2 a0_3 a0_4 a0_5 a0_6 a0_7 a0_8 a1_0 a1_1 a1_2 a1_3 a1_4) = some r := by rw [if_neg (show ¬ (false = true) by decide)] at H; exact H
      clear H
      have H := H1
      clear H1
      have H' := Aside0.mk H
      clear H
      have hnb91 := NB253_254.out
      have hnc91 := NB254_253.out
      have hcz92_0 : w5.cell? ⟨gb253, 0, none⟩ = some (.string a0_0) := (blk_cell BK253.out 0).trans rfl
      have hcz92_1 : w5.cell? ⟨gb253, 1, none⟩ = some (.string a0_1) := (blk_cell BK253.out 1).trans rfl
      have hcz92_2 : w5.cell? ⟨gb253, 2, none⟩ = some (.string a0_2) := (blk_cell BK253.out 2).trans rfl
      have hcz92_3 : w5.cell? ⟨gb253, 3, none⟩ = some (.string a0_3) := (blk_cell BK253.out 3).trans rfl
      have hcz92_4 : w5.cell? ⟨gb253, 4, none⟩ = some (.int .i64 a0_4) := (blk_cell BK253.out 4).trans rfl
      have hcz92_5 : w5.cell? ⟨gb253, 5, none⟩ = some (.int .i64 a0_5) := (blk_cell BK253.out 5).trans rfl
      have hcz92_6 : w5.cell? ⟨gb253, 6, none⟩ = some (.int .i64 a0_6) := (blk_cell BK253.out 6).trans rfl
      have hcz92_7 : w5.cell? ⟨gb253, 7, none⟩ = some (.int .i64 a0_7) := (blk_cell BK253.out 7).trans rfl
      have hcz92_8 : w5.cell? ⟨gb253, 8, none⟩ = some (.int .i64 a0_8) := (blk_cell BK253.out 8).trans rfl
      have hfz92_0 := blk_frozen BK253.out 0
      have hfz92_1 := blk_frozen BK253.out 1
      have hfz92_2 := blk_frozen BK253.out 2
      have hfz92_3 := blk_frozen BK253.out 3
      have hfz92_4 := blk_frozen BK253.out 4
      have hfz92_5 := blk_frozen BK253.out 5
      have hfz92_6 := blk_frozen BK253.out 6
      have hfz92_7 := blk_frozen BK253.out 7
      have hfz92_8 := blk_frozen BK253.out 8
      have hcz93_0 : w5.cell? ⟨gb254, 0, none⟩ = some (.string a1_0) := (blk_cell BK254.out 0).trans rfl
      have hcz93_1 : w5.cell? ⟨gb254, 1, none⟩ = some (.string a1_1) := (blk_cell BK254.out 1).trans rfl
      have hcz93_2 : w5.cell? ⟨gb254, 2, none⟩ = some (.int .i64 a1_2) := (blk_cell BK254.out 2).trans rfl
      have hcz93_3 : w5.cell? ⟨gb254, 3, none⟩ = some (.int .i64 a1_3) := (blk_cell BK254.out 3).trans rfl
      have hcz93_4 : w5.cell? ⟨gb254, 4, none⟩ = some (.int .i64 a1_4) := (blk_cell BK254.out 4).trans rfl
      have hfz93_0 := blk_frozen BK254.out 0
      have hfz93_1 := blk_frozen BK254.out 1
      have hfz93_2 := blk_frozen BK254.out 2
      have hfz93_3 := blk_frozen BK254.out 3
      have hfz93_4 := blk_frozen BK254.out 4
      go_wp2_with (first | ((with_reducible refine gate_callee (f := 13) rfl ?_); refine goesL_ (some 9) rfl rfl Try.func13 (by kernel_rfl) rfl #[.agg #[.string a0_0, .string a0_1, .string a0_2, .string a0_3, .int .i64 a0_4, .int .i64 a0_5, .int .i64 a0_6, .int .i64 a0_7, .int .i64 a0_8], .agg #[.string a1_0, .string a1_1, .int .i64 a1_2, .int .i64 a1_3, .int .i64 a1_4]] rfl (by (try simp only [List.map_toArray, List.map_cons, List.map_nil]); first | done | rfl | (simp only [List.length_drop, List.length_take]; rfl)) ?_; (with_reducible refine (redoubtlaw15_few.calls a0_0 a0_1 a0_2 a0_3 a0_4 a0_5 a0_6 a0_7 a0_8 a1_0 a1_1 a1_2 a1_3 a1_4 false _ A6.out).mono ?_); rintro e w94 ⟨rfl, hb⟩; refine ⟨_, rfl, ?_⟩; have n0_ := Aside0.mk (blk_below (g := gb253) (o := .cells #[.string a0_0, .string a0_1, .string a0_2, .string a0_3, .int .i64 a0_4, .int .i64 a0_5, .int .i64 a0_6, .int .i64 a0_7, .int .i64 a0_8] 37 (0, 0)) (by (with_reducible repeat (first | refine blk_drewN ?_ _ | refine blk_drew ?_ | refine blk_alloc ?_ _)); exact BK253.out) hb); have n1_ := Aside0.mk (blk_below (g := gb254) (o := .cells #[.string a1_0, .string a1_1, .int .i64 a1_2, .int .i64 a1_3, .int .i64 a1_4] 24 (0, 0)) (by (with_reducible repeat (first | refine blk_drewN ?_ _ | refine blk_drew ?_ | refine blk_alloc ?_ _)); exact BK254.out) hb); have n2_ := Aside0.mk (below_step (by repeat (first | (with_reducible first | exact HB.out | apply below_alloc | apply pw_below_drewN | apply below_drew1 | refine below_set ?_ GE253.out | refine below_set ?_ GE254.out) | exact HB.out)) hb); clear BK253; clear BK254; clear HB; have BK253 := n0_; have BK254 := n1_; have HB := n2_; clear n0_ n1_ n2_; (try clear hb); (try clear hb2); (try clear hk); (try clear hi)))
      go_meet
      case rel => exact ⟨_, (true), (by first | rfl | (simp; done) | (simp [*]; done)), H', ⟨by first | omega | exact Nat.le_refl _⟩, ⟨by (with_reducible repeat (first | refine blk_drewN ?_ _ | refine blk_drew ?_ | refine blk_alloc ?_ _)); exact BK253.out⟩, ⟨by (with_reducible repeat (first | refine blk_drewN ?_ _ | refine blk_drew ?_ | refine blk_alloc ?_ _)); exact BK254.out⟩, ⟨by repeat (first | (with_reducible first | exact HB.out | apply below_alloc | apply pw_below_drewN | apply below_drew1 | refine below_set ?_ GE253.out | refine below_set ?_ GE254.out) | exact HB.out)⟩⟩
  case rest =>
    clear HC3
    try clear c1
    try clear c2
    try clear p2
    try clear c3
    try clear c4
    try clear c5
    try clear c6
    try clear c7
    try clear c8
    try clear c8b0
    try clear c8b1
    try clear c8b2
    try clear c9
    try clear c9b0
    try clear c9b1
    try clear c10
    try clear c10b0
    try clear c13
    try clear c16
    try clear c16b0
    try clear c17
    try clear c22
    try clear c22b0
    try clear c23
    try clear c28
    try clear c28b0
    try clear c29
    try clear c34
    try clear c34b0
    try clear c35
    try clear c40
    try clear c45
    try clear c45b0
    try clear c45b1
    try clear c46
    try clear c46b0
    try clear c47
    try clear c52
    try clear c52b0
    try clear c53
    try clear c58
    try clear c58b0
    try clear c59
    try clear c64
    try clear c64b0
    try clear c65
    try clear c70
    try clear c70b0
    try clear c71
    try clear c76
    try clear c81
    try clear c86
    try clear c91
    try clear hcz13_0
    try clear hcz13_1
    try clear hcz13_2
    try clear hcz13_3
    try clear hcz13_4
    try clear hcz15_0
    try clear hcz15_1
    try clear hcz15_2
    try clear hcz15_3
    try clear hcz15_4
    try clear hcz18_0
    try clear hcz18_1
    try clear hcz18_2
    try clear hcz18_3
    try clear hcz18_4
    try clear hcz18_5
    try clear hcz18_6
    try clear hcz18_7
    try clear hcz18_8
    try clear hcz19_0
    try clear hcz19_1
    try clear hcz19_2
    try clear hcz19_3
    try clear hcz19_4
    try clear hcz21_0
    try clear hcz21_1
    try clear hcz21_2
    try clear hcz21_3
    try clear hcz21_4
    try clear hcz24_0
    try clear hcz24_1
    try clear hcz24_2
    try clear hcz24_3
    try clear hcz24_4
    try clear hcz24_5
    try clear hcz24_6
    try clear hcz24_7
    try clear hcz24_8
    try clear hcz25_0
    try clear hcz25_1
    try clear hcz25_2
    try clear hcz25_3
    try clear hcz25_4
    try clear hcz27_0
    try clear hcz27_1
    try clear hcz27_2
    try clear hcz27_3
    try clear hcz27_4
    try clear hcz30_0
    try clear hcz30_1
    try clear hcz30_2
    try clear hcz30_3
    try clear hcz30_4
    try clear hcz30_5
    try clear hcz30_6
    try clear hcz30_7
    try clear hcz30_8
    try clear hcz31_0
    try clear hcz31_1
    try clear hcz31_2
    try clear hcz31_3
    try clear hcz31_4
    try clear hcz33_0
    try clear hcz33_1
    try clear hcz33_2
    try clear hcz33_3
    try clear hcz33_4
    try clear hcz36_0
    try clear hcz36_1
    try clear hcz36_2
    try clear hcz36_3
    try clear hcz36_4
    try clear hcz36_5
    try clear hcz36_6
    try clear hcz36_7
    try clear hcz36_8
    try clear hcz37_0
    try clear hcz37_1
    try clear hcz37_2
    try clear hcz37_3
    try clear hcz37_4
    try clear hcz39_0
    try clear hcz39_1
    try clear hcz39_2
    try clear hcz39_3
    try clear hcz39_4
    try clear hcz41_0
    try clear hcz41_1
    try clear hcz41_2
    try clear hcz41_3
    try clear hcz41_4
    try clear hcz41_5
    try clear hcz41_6
    try clear hcz41_7
    try clear hcz41_8
    try clear hcz42_0
    try clear hcz42_1
    try clear hcz42_2
    try clear hcz42_3
    try clear hcz42_4
    try clear hcz44_0
    try clear hcz44_1
    try clear hcz44_2
    try clear hcz44_3
    try clear hcz44_4
    try clear hcz48_0
    try clear hcz48_1
    try clear hcz48_2
    try clear hcz48_3
    try clear hcz48_4
    try clear hcz48_5
    try clear hcz48_6
    try clear hcz48_7
    try clear hcz48_8
    try clear hcz49_0
    try clear hcz49_1
    try clear hcz49_2
    try clear hcz49_3
    try clear hcz49_4
    try clear hcz51_0
    try clear hcz51_1
    try clear hcz51_2
    try clear hcz51_3
    try clear hcz51_4
    try clear hcz54_0
    try clear hcz54_1
    try clear hcz54_2
    try clear hcz54_3
    try clear hcz54_4
    try clear hcz54_5
    try clear hcz54_6
    try clear hcz54_7
    try clear hcz54_8
    try clear hcz55_0
    try clear hcz55_1
    try clear hcz55_2
    try clear hcz55_3
    try clear hcz55_4
    try clear hcz57_0
    try clear hcz57_1
    try clear hcz57_2
    try clear hcz57_3
    try clear hcz57_4
    try clear hcz60_0
    try clear hcz60_1
    try clear hcz60_2
    try clear hcz60_3
    try clear hcz60_4
    try clear hcz60_5
    try clear hcz60_6
    try clear hcz60_7
    try clear hcz60_8
    try clear hcz61_0
    try clear hcz61_1
    try clear hcz61_2
    try clear hcz61_3
    try clear hcz61_4
    try clear hcz63_0
    try clear hcz63_1
    try clear hcz63_2
    try clear hcz63_3
    try clear hcz63_4
    try clear hcz66_0
    try clear hcz66_1
    try clear hcz66_2
    try clear hcz66_3
    try clear hcz66_4
    try clear hcz66_5
    try clear hcz66_6
    try clear hcz66_7
    try clear hcz66_8
    try clear hcz67_0
    try clear hcz67_1
    try clear hcz67_2
    try clear hcz67_3
    try clear hcz67_4
    try clear hcz69_0
    try clear hcz69_1
    try clear hcz69_2
    try clear hcz69_3
    try clear hcz69_4
    try clear hcz72_0
    try clear hcz72_1
    try clear hcz72_2
    try clear hcz72_3
    try clear hcz72_4
    try clear hcz72_5
    try clear hcz72_6
    try clear hcz72_7
    try clear hcz72_8
    try clear hcz73_0
    try clear hcz73_1
    try clear hcz73_2
    try clear hcz73_3
    try clear hcz73_4
    try clear hcz75_0
    try clear hcz75_1
    try clear hcz75_2
    try clear hcz75_3
    try clear hcz75_4
    try clear hcz77_0
    try clear hcz77_1
    try clear hcz77_2
    try clear hcz77_3
    try clear hcz77_4
    try clear hcz77_5
    try clear hcz77_6
    try clear hcz77_7
    try clear hcz77_8
    try clear hcz78_0
    try clear hcz78_1
    try clear hcz78_2
    try clear hcz78_3
    try clear hcz78_4
    try clear hcz80_0
    try clear hcz80_1
    try clear hcz80_2
    try clear hcz80_3
    try clear hcz80_4
    try clear hcz82_0
    try clear hcz82_1
    try clear hcz82_2
    try clear hcz82_3
    try clear hcz82_4
    try clear hcz82_5
    try clear hcz82_6
    try clear hcz82_7
    try clear hcz82_8
    try clear hcz83_0
    try clear hcz83_1
    try clear hcz83_2
    try clear hcz83_3
    try clear hcz83_4
    try clear hcz85_0
    try clear hcz85_1
    try clear hcz85_2
    try clear hcz85_3
    try clear hcz85_4
    try clear hcz87_0
    try clear hcz87_1
    try clear hcz87_2
    try clear hcz87_3
    try clear hcz87_4
    try clear hcz87_5
    try clear hcz87_6
    try clear hcz87_7
    try clear hcz87_8
    try clear hcz88_0
    try clear hcz88_1
    try clear hcz88_2
    try clear hcz88_3
    try clear hcz88_4
    try clear hcz90_0
    try clear hcz90_1
    try clear hcz90_2
    try clear hcz90_3
    try clear hcz90_4
    try clear hcz92_0
    try clear hcz92_1
    try clear hcz92_2
    try clear hcz92_3
    try clear hcz92_4
    try clear hcz92_5
    try clear hcz92_6
    try clear hcz92_7
    try clear hcz92_8
    try clear hcz93_0
    try clear hcz93_1
    try clear hcz93_2
    try clear hcz93_3
    try clear hcz93_4
    try clear hfz12_2
    try clear hfz12_3
    try clear hfz12_4
    try clear hfz12_5
    try clear hfz12_6
    try clear hfz12_7
    try clear hfz12_8
    try clear hfz13_0
    try clear hfz13_1
    try clear hfz13_2
    try clear hfz13_3
    try clear hfz13_4
    try clear hfz15_0
    try clear hfz15_1
    try clear hfz15_2
    try clear hfz15_3
    try clear hfz15_4
    try clear hfz18_0
    try clear hfz18_1
    try clear hfz18_2
    try clear hfz18_3
    try clear hfz18_4
    try clear hfz18_5
    try clear hfz18_6
    try clear hfz18_7
    try clear hfz18_8
    try clear hfz19_0
    try clear hfz19_1
    try clear hfz19_2
    try clear hfz19_3
    try clear hfz19_4
    try clear hfz21_0
    try clear hfz21_1
    try clear hfz21_2
    try clear hfz21_3
    try clear hfz21_4
    try clear hfz24_0
    try clear hfz24_1
    try clear hfz24_2
    try clear hfz24_3
    try clear hfz24_4
    try clear hfz24_5
    try clear hfz24_6
    try clear hfz24_7
    try clear hfz24_8
    try clear hfz25_0
    try clear hfz25_1
    try clear hfz25_2
    try clear hfz25_3
    try clear hfz25_4
    try clear hfz27_0
    try clear hfz27_1
    try clear hfz27_2
    try clear hfz27_3
    try clear hfz27_4
    try clear hfz30_0
    try clear hfz30_1
    try clear hfz30_2
    try clear hfz30_3
    try clear hfz30_4
    try clear hfz30_5
    try clear hfz30_6
    try clear hfz30_7
    try clear hfz30_8
    try clear hfz31_0
    try clear hfz31_1
    try clear hfz31_2
    try clear hfz31_3
    try clear hfz31_4
    try clear hfz33_0
    try clear hfz33_1
    try clear hfz33_2
    try clear hfz33_3
    try clear hfz33_4
    try clear hfz36_0
    try clear hfz36_1
    try clear hfz36_2
    try clear hfz36_3
    try clear hfz36_4
    try clear hfz36_5
    try clear hfz36_6
    try clear hfz36_7
    try clear hfz36_8
    try clear hfz37_0
    try clear hfz37_1
    try clear hfz37_2
    try clear hfz37_3
    try clear hfz37_4
    try clear hfz39_0
    try clear hfz39_1
    try clear hfz39_2
    try clear hfz39_3
    try clear hfz39_4
    try clear hfz41_0
    try clear hfz41_1
    try clear hfz41_2
    try clear hfz41_3
    try clear hfz41_4
    try clear hfz41_5
    try clear hfz41_6
    try clear hfz41_7
    try clear hfz41_8
    try clear hfz42_0
    try clear hfz42_1
    try clear hfz42_2
    try clear hfz42_3
    try clear hfz42_4
    try clear hfz44_0
    try clear hfz44_1
    try clear hfz44_2
    try clear hfz44_3
    try clear hfz44_4
    try clear hfz48_0
    try clear hfz48_1
    try clear hfz48_2
    try clear hfz48_3
    try clear hfz48_4
    try clear hfz48_5
    try clear hfz48_6
    try clear hfz48_7
    try clear hfz48_8
    try clear hfz49_0
    try clear hfz49_1
    try clear hfz49_2
    try clear hfz49_3
    try clear hfz49_4
    try clear hfz51_0
    try clear hfz51_1
    try clear hfz51_2
    try clear hfz51_3
    try clear hfz51_4
    try clear hfz54_0
    try clear hfz54_1
    try clear hfz54_2
    try clear hfz54_3
    try clear hfz54_4
    try clear hfz54_5
    try clear hfz54_6
    try clear hfz54_7
    try clear hfz54_8
    try clear hfz55_0
    try clear hfz55_1
    try clear hfz55_2
    try clear hfz55_3
    try clear hfz55_4
    try clear hfz57_0
    try clear hfz57_1
    try clear hfz57_2
    try clear hfz57_3
    try clear hfz57_4
    try clear hfz60_0
    try clear hfz60_1
    try clear hfz60_2
    try clear hfz60_3
    try clear hfz60_4
    try clear hfz60_5
    try clear hfz60_6
    try clear hfz60_7
    try clear hfz60_8
    try clear hfz61_0
    try clear hfz61_1
    try clear hfz61_2
    try clear hfz61_3
    try clear hfz61_4
    try clear hfz63_0
    try clear hfz63_1
    try clear hfz63_2
    try clear hfz63_3
    try clear hfz63_4
    try clear hfz66_0
    try clear hfz66_1
    try clear hfz66_2
    try clear hfz66_3
    try clear hfz66_4
    try clear hfz66_5
    try clear hfz66_6
    try clear hfz66_7
    try clear hfz66_8
    try clear hfz67_0
    try clear hfz67_1
    try clear hfz67_2
    try clear hfz67_3
    try clear hfz67_4
    try clear hfz69_0
    try clear hfz69_1
    try clear hfz69_2
    try clear hfz69_3
    try clear hfz69_4
    try clear hfz72_0
    try clear hfz72_1
    try clear hfz72_2
    try clear hfz72_3
    try clear hfz72_4
    try clear hfz72_5
    try clear hfz72_6
    try clear hfz72_7
    try clear hfz72_8
    try clear hfz73_0
    try clear hfz73_1
    try clear hfz73_2
    try clear hfz73_3
    try clear hfz73_4
    try clear hfz75_0
    try clear hfz75_1
    try clear hfz75_2
    try clear hfz75_3
    try clear hfz75_4
    try clear hfz77_0
    try clear hfz77_1
    try clear hfz77_2
    try clear hfz77_3
    try clear hfz77_4
    try clear hfz77_5
    try clear hfz77_6
    try clear hfz77_7
    try clear hfz77_8
    try clear hfz78_0
    try clear hfz78_1
    try clear hfz78_2
    try clear hfz78_3
    try clear hfz78_4
    try clear hfz80_0
    try clear hfz80_1
    try clear hfz80_2
    try clear hfz80_3
    try clear hfz80_4
    try clear hfz82_0
    try clear hfz82_1
    try clear hfz82_2
    try clear hfz82_3
    try clear hfz82_4
    try clear hfz82_5
    try clear hfz82_6
    try clear hfz82_7
    try clear hfz82_8
    try clear hfz83_0
    try clear hfz83_1
    try clear hfz83_2
    try clear hfz83_3
    try clear hfz83_4
    try clear hfz85_0
    try clear hfz85_1
    try clear hfz85_2
    try clear hfz85_3
    try clear hfz85_4
    try clear hfz87_0
    try clear hfz87_1
    try clear hfz87_2
    try clear hfz87_3
    try clear hfz87_4
    try clear hfz87_5
    try clear hfz87_6
    try clear hfz87_7
    try clear hfz87_8
    try clear hfz88_0
    try clear hfz88_1
    try clear hfz88_2
    try clear hfz88_3
    try clear hfz88_4
    try clear hfz90_0
    try clear hfz90_1
    try clear hfz90_2
    try clear hfz90_3
    try clear hfz90_4
    try clear hfz92_0
    try clear hfz92_1
    try clear hfz92_2
    try clear hfz92_3
    try clear hfz92_4
    try clear hfz92_5
    try clear hfz92_6
    try clear hfz92_7
    try clear hfz92_8
    try clear hfz93_0
    try clear hfz93_1
    try clear hfz93_2
    try clear hfz93_3
    try clear hfz93_4
    obtain ⟨kq, x61_2, rfl, HA, HJ2, BK253, BK254, HB⟩ := hcut
    cases kq with
    | zero => exact absurd HA.out (by simp [redoubtlaw15_PickNone.j0])
    | succ kj2 =>
      have H := HA.out
      clear HA
      simp only [redoubtlaw15_PickNone.j0] at H
      by_cases c95 : x61_2 = true
      · subst c95
        have H1 : (some true) = some r := by rw [if_pos rfl] at H; exact H
        clear H
        have H := H1
        clear H1
        obtain rfl := Option.some.inj H
        go_wp2
        go_ret
        exact ⟨by first | rfl | (simp [errW_none, errW_some] <;> rfl) | (simp [*, errW_none, errW_some] <;> rfl), by repeat (first | (with_reducible first | exact HB.out | apply below_alloc | apply pw_below_drewN | apply below_drew1 | refine below_set ?_ GE253.out | refine below_set ?_ GE254.out) | exact HB.out)⟩
      · replace c95 := Bool.eq_false_iff.mpr c95
        subst c95
        have H1 : ((pick_Check.f kj2 a0_0 a0_1 a0_2 a0_3 a0_4 a0_5 a0_6 a0_7 a0_8).bind fun t256 => (if t256 = 0 then (redoubtlaw15_PickNone.j1 kj2 false a1_0 a1_1 a1_2 a1_3 a1_4) else ((pick_Matches.f kj2 a0_0 a0_1 a0_2 a0_3 a0_4 a0_5 a0_6 a0_7 a0_8 a1_0 a1_1 a1_2 a1_3 a1_4).bind fun t257 => (redoubtlaw15_PickNone.j1 kj2 t257 a1_0 a1_1 a1_2 a1_3 a1_4)))) = some r := by rw [if_neg (show ¬ (false = true) by decide)] at H; exact H
        clear H
        have H := H1
        clear H1
        have HC96 := Aside0.mk H
        clear H
        go_upto_region 3 with (fail)
        go_cut [69] (fun v69 wc => ∃ (kq : Nat) (x69_95 : Bool), v69 = .bool x69_95 ∧ Aside0 (redoubtlaw15_PickNone.j1 kq x69_95 a1_0 a1_1 a1_2 a1_3 a1_4 = some r) ∧ Aside0 (kq ≤ kj2) ∧ Aside0 (wc.heap[gb253]? = some (.cells #[.string a0_0, .string a0_1, .string a0_2, .string a0_3, .int .i64 a0_4, .int .i64 a0_5, .int .i64 a0_6, .int .i64 a0_7, .int .i64 a0_8] 37 (0, 0))) ∧ Aside0 (wc.heap[gb254]? = some (.cells #[.string a1_0, .string a1_1, .int .i64 a1_2, .int .i64 a1_3, .int .i64 a1_4] 24 (0, 0))) ∧ Aside0 (Below w.heap.size w wc))
        case first =>
          have H := HC96.out
          clear HC96
          replace H := Option.bind_eq_some_iff.mp H
          obtain ⟨t256, A970, H⟩ := H
          replace H : (if t256 = 0 then (redoubtlaw15_PickNone.j1 kj2 false a1_0 a1_1 a1_2 a1_3 a1_4) else ((pick_Matches.f kj2 a0_0 a0_1 a0_2 a0_3 a0_4 a0_5 a0_6 a0_7 a0_8 a1_0 a1_1 a1_2 a1_3 a1_4).bind fun t257 => (redoubtlaw15_PickNone.j1 kj2 t257 a1_0 a1_1 a1_2 a1_3 a1_4))) = some r := H
          have A97 := Aside0.mk A970
          clear A970
          by_cases c98 : t256 = 0
          · rw [if_pos c98] at H
            have c98b0 : (t256 == 0) = true := beq_iff_eq.mpr c98
            have c98b1 : (t256 != 0) = false := bne_eq_false_iff_eq.mpr c98
            clear c98
            (first | rw [c98b0] | (simp only [i64_w, i32_w]; rw [c98b0]) | skip)
            have H' := Aside0.mk H
            clear H
            have hnb99 := NB253_254.out
            have hnc99 := NB254_253.out
            have hcz100_0 : wc.cell? ⟨gb253, 0, none⟩ = some (.string a0_0) := (blk_cell BK253.out 0).trans rfl
            have hcz100_1 : wc.cell? ⟨gb253, 1, none⟩ = some (.string a0_1) := (blk_cell BK253.out 1).trans rfl
            have hcz100_2 : wc.cell? ⟨gb253, 2, none⟩ = some (.string a0_2) := (blk_cell BK253.out 2).trans rfl
            have hcz100_3 : wc.cell? ⟨gb253, 3, none⟩ = some (.string a0_3) := (blk_cell BK253.out 3).trans rfl
            have hcz100_4 : wc.cell? ⟨gb253, 4, none⟩ = some (.int .i64 a0_4) := (blk_cell BK253.out 4).trans rfl
            have hcz100_5 : wc.cell? ⟨gb253, 5, none⟩ = some (.int .i64 a0_5) := (blk_cell BK253.out 5).trans rfl
            have hcz100_6 : wc.cell? ⟨gb253, 6, none⟩ = some (.int .i64 a0_6) := (blk_cell BK253.out 6).trans rfl
            have hcz100_7 : wc.cell? ⟨gb253, 7, none⟩ = some (.int .i64 a0_7) := (blk_cell BK253.out 7).trans rfl
            have hcz100_8 : wc.cell? ⟨gb253, 8, none⟩ = some (.int .i64 a0_8) := (blk_cell BK253.out 8).trans rfl
            have hfz100_0 := blk_frozen BK253.out 0
            have hfz100_1 := blk_frozen BK253.out 1
            have hfz100_2 := blk_frozen BK253.out 2
            have hfz100_3 := blk_frozen BK253.out 3
            have hfz100_4 := blk_frozen BK253.out 4
            have hfz100_5 := blk_frozen BK253.out 5
            have hfz100_6 := blk_frozen BK253.out 6
            have hfz100_7 := blk_frozen BK253.out 7
            have hfz100_8 := blk_frozen BK253.out 8
            go_wp2_with (first | ((with_reducible refine gate_callee (f := 15) rfl ?_); refine goesL_ (some 63) rfl rfl Try.func15 (by kernel_rfl) rfl #[.agg #[.string a0_0, .string a0_1, .string a0_2, .string a0_3, .int .i64 a0_4, .int .i64 a0_5, .int .i64 a0_6, .int .i64 a0_7, .int .i64 a0_8]] rfl (by (try simp only [List.map_toArray, List.map_cons, List.map_nil]); first | done | rfl | (simp only [List.length_drop, List.length_take]; rfl)) ?_; (with_reducible refine (pick_Check.calls kj2 a0_0 a0_1 a0_2 a0_3 a0_4 a0_5 a0_6 a0_7 a0_8 t256 _ A97.out).mono ?_); rintro e w101 ⟨rfl, hb⟩; refine ⟨_, rfl, ?_⟩; have n0_ := Aside0.mk (blk_below (g := gb253) (o := .cells #[.string a0_0, .string a0_1, .string a0_2, .string a0_3, .int .i64 a0_4, .int .i64 a0_5, .int .i64 a0_6, .int .i64 a0_7, .int .i64 a0_8] 37 (0, 0)) (by (with_reducible repeat (first | refine blk_drewN ?_ _ | refine blk_drew ?_ | refine blk_alloc ?_ _)); exact BK253.out) hb); have n1_ := Aside0.mk (blk_below (g := gb254) (o := .cells #[.string a1_0, .string a1_1, .int .i64 a1_2, .int .i64 a1_3, .int .i64 a1_4] 24 (0, 0)) (by (with_reducible repeat (first | refine blk_drewN ?_ _ | refine blk_drew ?_ | refine blk_alloc ?_ _)); exact BK254.out) hb); have n2_ := Aside0.mk (below_step (by repeat (first | (with_reducible first | exact HB.out | apply below_alloc | apply pw_below_drewN | apply below_drew1 | refine below_set ?_ GE253.out | refine below_set ?_ GE254.out) | exact HB.out)) hb); clear BK253; clear BK254; clear HB; have BK253 := n0_; have BK254 := n1_; have HB := n2_; clear n0_ n1_ n2_; (try clear hb); (try clear hb2); (try clear hk); (try clear hi)))
            go_meet
            case rel => exact ⟨_, (false), (by first | rfl | (simp; done) | (simp [*]; done)), H', ⟨by have := HJ2.out; first | omega | exact Nat.le_refl _⟩, ⟨by (with_reducible repeat (first | refine blk_drewN ?_ _ | refine blk_drew ?_ | refine blk_alloc ?_ _)); exact BK253.out⟩, ⟨by (with_reducible repeat (first | refine blk_drewN ?_ _ | refine blk_drew ?_ | refine blk_alloc ?_ _)); exact BK254.out⟩, ⟨by repeat (first | (with_reducible first | exact HB.out | apply below_alloc | apply pw_below_drewN | apply below_drew1 | refine below_set ?_ GE253.out | refine below_set ?_ GE254.out) | exact HB.out)⟩⟩
          · rw [if_neg c98] at H
            have c98b0 : (t256 == 0) = false := beq_eq_false_iff_ne.mpr c98
            have c98b1 : (t256 != 0) = true := bne_iff_ne.mpr c98
            (first | rw [c98b0] | (simp only [i64_w, i32_w]; rw [c98b0]) | skip)
            replace H := Option.bind_eq_some_iff.mp H
            obtain ⟨t257, A1020, H⟩ := H
            replace H : (redoubtlaw15_PickNone.j1 kj2 t257 a1_0 a1_1 a1_2 a1_3 a1_4) = some r := H
            have A102 := Aside0.mk A1020
            clear A1020
            have H' := Aside0.mk H
            clear H
            have hnb103 := NB253_254.out
            have hnc103 := NB254_253.out
            have hcz104_0 : wc.cell? ⟨gb253, 0, none⟩ = some (.string a0_0) := (blk_cell BK253.out 0).trans rfl
            have hcz104_1 : wc.cell? ⟨gb253, 1, none⟩ = some (.string a0_1) := (blk_cell BK253.out 1).trans rfl
            have hcz104_2 : wc.cell? ⟨gb253, 2, none⟩ = some (.string a0_2) := (blk_cell BK253.out 2).trans rfl
            have hcz104_3 : wc.cell? ⟨gb253, 3, none⟩ = some (.string a0_3) := (blk_cell BK253.out 3).trans rfl
            have hcz104_4 : wc.cell? ⟨gb253, 4, none⟩ = some (.int .i64 a0_4) := (blk_cell BK253.out 4).trans rfl
            have hcz104_5 : wc.cell? ⟨gb253, 5, none⟩ = some (.int .i64 a0_5) := (blk_cell BK253.out 5).trans rfl
            have hcz104_6 : wc.cell? ⟨gb253, 6, none⟩ = some (.int .i64 a0_6) := (blk_cell BK253.out 6).trans rfl
            have hcz104_7 : wc.cell? ⟨gb253, 7, none⟩ = some (.int .i64 a0_7) := (blk_cell BK253.out 7).trans rfl
            have hcz104_8 : wc.cell? ⟨gb253, 8, none⟩ = some (.int .i64 a0_8) := (blk_cell BK253.out 8).trans rfl
            have hfz104_0 := blk_frozen BK253.out 0
            have hfz104_1 := blk_frozen BK253.out 1
            have hfz104_2 := blk_frozen BK253.out 2
            have hfz104_3 := blk_frozen BK253.out 3
            have hfz104_4 := blk_frozen BK253.out 4
            have hfz104_5 := blk_frozen BK253.out 5
            have hfz104_6 := blk_frozen BK253.out 6
            have hfz104_7 := blk_frozen BK253.out 7
            have hfz104_8 := blk_frozen BK253.out 8
            go_wp2_with (first | ((with_reducible refine gate_callee (f := 15) rfl ?_); refine goesL_ (some 63) rfl rfl Try.func15 (by kernel_rfl) rfl #[.agg #[.string a0_0, .string a0_1, .string a0_2, .string a0_3, .int .i64 a0_4, .int .i64 a0_5, .int .i64 a0_6, .int .i64 a0_7, .int .i64 a0_8]] rfl (by (try simp only [List.map_toArray, List.map_cons, List.map_nil]); first | done | rfl | (simp only [List.length_drop, List.length_take]; rfl)) ?_; (with_reducible refine (pick_Check.calls kj2 a0_0 a0_1 a0_2 a0_3 a0_4 a0_5 a0_6 a0_7 a0_8 t256 _ A97.out).mono ?_); rintro e w105 ⟨rfl, hb⟩; refine ⟨_, rfl, ?_⟩; have n0_ := Aside0.mk (blk_below (g := gb253) (o := .cells #[.string a0_0, .string a0_1, .string a0_2, .string a0_3, .int .i64 a0_4, .int .i64 a0_5, .int .i64 a0_6, .int .i64 a0_7, .int .i64 a0_8] 37 (0, 0)) (by (with_reducible repeat (first | refine blk_drewN ?_ _ | refine blk_drew ?_ | refine blk_alloc ?_ _)); exact BK253.out) hb); have n1_ := Aside0.mk (blk_below (g := gb254) (o := .cells #[.string a1_0, .string a1_1, .int .i64 a1_2, .int .i64 a1_3, .int .i64 a1_4] 24 (0, 0)) (by (with_reducible repeat (first | refine blk_drewN ?_ _ | refine blk_drew ?_ | refine blk_alloc ?_ _)); exact BK254.out) hb); have n2_ := Aside0.mk (below_step (by repeat (first | (with_reducible first | exact HB.out | apply below_alloc | apply pw_below_drewN | apply below_drew1 | refine below_set ?_ GE253.out | refine below_set ?_ GE254.out) | exact HB.out)) hb); clear BK253; clear BK254; clear HB; have BK253 := n0_; have BK254 := n1_; have HB := n2_; clear n0_ n1_ n2_; (try clear hb); (try clear hb2); (try clear hk); (try clear hi); have hcz106_0 : w105.cell? ⟨gb253, 0, none⟩ = some (.string a0_0) := (blk_cell BK253.out 0).trans rfl; have hcz106_1 : w105.cell? ⟨gb253, 1, none⟩ = some (.string a0_1) := (blk_cell BK253.out 1).trans rfl; have hcz106_2 : w105.cell? ⟨gb253, 2, none⟩ = some (.string a0_2) := (blk_cell BK253.out 2).trans rfl; have hcz106_3 : w105.cell? ⟨gb253, 3, none⟩ = some (.string a0_3) := (blk_cell BK253.out 3).trans rfl; have hcz106_4 : w105.cell? ⟨gb253, 4, none⟩ = some (.int .i64 a0_4) := (blk_cell BK253.out 4).trans rfl; have hcz106_5 : w105.cell? ⟨gb253, 5, none⟩ = some (.int .i64 a0_5) := (blk_cell BK253.out 5).trans rfl; have hcz106_6 : w105.cell? ⟨gb253, 6, none⟩ = some (.int .i64 a0_6) := (blk_cell BK253.out 6).trans rfl; have hcz106_7 : w105.cell? ⟨gb253, 7, none⟩ = some (.int .i64 a0_7) := (blk_cell BK253.out 7).trans rfl; have hcz106_8 : w105.cell? ⟨gb253, 8, none⟩ = some (.int .i64 a0_8) := (blk_cell BK253.out 8).trans rfl; have hfz106_0 := blk_frozen BK253.out 0; have hfz106_1 := blk_frozen BK253.out 1; have hfz106_2 := blk_frozen BK253.out 2; have hfz106_3 := blk_frozen BK253.out 3; have hfz106_4 := blk_frozen BK253.out 4; have hfz106_5 := blk_frozen BK253.out 5; have hfz106_6 := blk_frozen BK253.out 6; have hfz106_7 := blk_frozen BK253.out 7; have hfz106_8 := blk_frozen BK253.out 8; have hcz107_0 : w105.cell? ⟨gb254, 0, none⟩ = some (.string a1_0) := (blk_cell BK254.out 0).trans rfl; have hcz107_1 : w105.cell? ⟨gb254, 1, none⟩ = some (.string a1_1) := (blk_cell BK254.out 1).trans rfl; have hcz107_2 : w105.cell? ⟨gb254, 2, none⟩ = some (.int .i64 a1_2) := (blk_cell BK254.out 2).trans rfl; have hcz107_3 : w105.cell? ⟨gb254, 3, none⟩ = some (.int .i64 a1_3) := (blk_cell BK254.out 3).trans rfl; have hcz107_4 : w105.cell? ⟨gb254, 4, none⟩ = some (.int .i64 a1_4) := (blk_cell BK254.out 4).trans rfl; have hfz107_0 := blk_frozen BK254.out 0; have hfz107_1 := blk_frozen BK254.out 1; have hfz107_2 := blk_frozen BK254.out 2; have hfz107_3 := blk_frozen BK254.out 3; have hfz107_4 := blk_frozen BK254.out 4) | (go_at_call 14; (with_reducible refine (pick_Matches.calls kj2 a0_0 a0_1 a0_2 a0_3 a0_4 a0_5 a0_6 a0_7 a0_8 a1_0 a1_1 a1_2 a1_3 a1_4 t257 _ A102.out).mono ?_); rintro e w108 ⟨rfl, hb⟩; have n0_ := Aside0.mk (blk_below (g := gb253) (o := .cells #[.string a0_0, .string a0_1, .string a0_2, .string a0_3, .int .i64 a0_4, .int .i64 a0_5, .int .i64 a0_6, .int .i64 a0_7, .int .i64 a0_8] 37 (0, 0)) (by (with_reducible repeat (first | refine blk_drewN ?_ _ | refine blk_drew ?_ | refine blk_alloc ?_ _)); exact BK253.out) hb); have n1_ := Aside0.mk (blk_below (g := gb254) (o := .cells #[.string a1_0, .string a1_1, .int .i64 a1_2, .int .i64 a1_3, .int .i64 a1_4] 24 (0, 0)) (by (with_reducible repeat (first | refine blk_drewN ?_ _ | refine blk_drew ?_ | refine blk_alloc ?_ _)); exact BK254.out) hb); have n2_ := Aside0.mk (below_step (by repeat (first | (with_reducible first | exact HB.out | apply below_alloc | apply pw_below_drewN | apply below_drew1 | refine below_set ?_ GE253.out | refine below_set ?_ GE254.out) | exact HB.out)) hb); clear BK253; clear BK254; clear HB; have BK253 := n0_; have BK254 := n1_; have HB := n2_; clear n0_ n1_ n2_; (try clear hb); (try clear hb2); (try clear hk); (try clear hi)))
            go_meet
            case rel => exact ⟨_, (t257), (by first | rfl | (simp; done) | (simp [*]; done)), H', ⟨by have := HJ2.out; first | omega | exact Nat.le_refl _⟩, ⟨by (with_reducible repeat (first | refine blk_drewN ?_ _ | refine blk_drew ?_ | refine blk_alloc ?_ _)); exact BK253.out⟩, ⟨by (with_reducible repeat (first | refine blk_drewN ?_ _ | refine blk_drew ?_ | refine blk_alloc ?_ _)); exact BK254.out⟩, ⟨by repeat (first | (with_reducible first | exact HB.out | apply below_alloc | apply pw_below_drewN | apply below_drew1 | refine below_set ?_ GE253.out | refine below_set ?_ GE254.out) | exact HB.out)⟩⟩
        case rest =>
          clear HC96
          try clear c1
          try clear p2
          try clear c9
          try clear c10
          try clear c15
          try clear c95
          try clear c98
          try clear c98b0
          try clear c98b1
          try clear c99
          try clear c103
          try clear hcz100_0
          try clear hcz100_1
          try clear hcz100_2
          try clear hcz100_3
          try clear hcz100_4
          try clear hcz100_5
          try clear hcz100_6
          try clear hcz100_7
          try clear hcz100_8
          try clear hcz104_0
          try clear hcz104_1
          try clear hcz104_2
          try clear hcz104_3
          try clear hcz104_4
          try clear hcz104_5
          try clear hcz104_6
          try clear hcz104_7
          try clear hcz104_8
          try clear hcz106_0
          try clear hcz106_1
          try clear hcz106_2
          try clear hcz106_3
          try clear hcz106_4
          try clear hcz106_5
          try clear hcz106_6
          try clear hcz106_7
          try clear hcz106_8
          try clear hcz107_0
          try clear hcz107_1
          try clear hcz107_2
          try clear hcz107_3
          try clear hcz107_4
          try clear hcz30_3
          try clear hcz30_4
          try clear hcz30_5
          try clear hcz30_6
          try clear hcz30_7
          try clear hcz30_8
          try clear hcz31_0
          try clear hcz31_1
          try clear hcz31_2
          try clear hcz31_3
          try clear hcz31_4
          try clear hcz33_0
          try clear hcz33_1
          try clear hcz33_2
          try clear hcz33_3
          try clear hcz33_4
          try clear hcz36_0
          try clear hcz36_1
          try clear hcz36_2
          try clear hcz36_3
          try clear hcz36_4
          try clear hcz36_5
          try clear hcz36_6
          try clear hcz36_7
          try clear hcz36_8
          try clear hcz37_0
          try clear hcz37_1
          try clear hcz37_2
          try clear hcz37_3
          try clear hcz37_4
          try clear hcz39_0
          try clear hcz39_1
          try clear hcz39_2
          try clear hcz39_3
          try clear hcz39_4
          try clear hcz41_0
          try clear hcz41_1
          try clear hcz41_2
          try clear hcz41_3
          try clear hcz41_4
          try clear hcz41_5
          try clear hcz41_6
          try clear hcz41_7
          try clear hcz41_8
          try clear hcz42_0
          try clear hcz42_1
          try clear hcz42_2
          try clear hcz42_3
          try clear hcz42_4
          try clear hcz44_0
          try clear hcz44_1
          try clear hcz44_2
          try clear hcz44_3
          try clear hcz44_4
          try clear hcz48_0
          try clear hcz48_1
          try clear hcz48_2
          try clear hcz48_3
          try clear hcz48_4
          try clear hcz48_5
          try clear hcz48_6
          try clear hcz48_7
          try clear hcz48_8
          try clear hcz49_0
          try clear hcz49_1
          try clear hcz49_2
          try clear hcz49_3
          try clear hcz49_4
          try clear hcz51_0
          try clear hcz51_1
          try clear hcz51_2
          try clear hcz51_3
          try clear hcz51_4
          try clear hcz54_0
          try clear hcz54_1
          try clear hcz54_2
          try clear hcz54_3
          try clear hcz54_4
          try clear hcz54_5
          try clear hcz54_6
          try clear hcz54_7
          try clear hcz54_8
          try clear hcz55_0
          try clear hcz55_1
          try clear hcz55_2
          try clear hcz55_3
          try clear hcz55_4
          try clear hcz57_0
          try clear hcz57_1
          try clear hcz57_2
          try clear hcz57_3
          try clear hcz57_4
          try clear hcz60_0
          try clear hcz60_1
          try clear hcz60_2
          try clear hcz60_3
          try clear hcz60_4
          try clear hcz60_5
          try clear hcz60_6
          try clear hcz60_7
          try clear hcz60_8
          try clear hcz61_0
          try clear hcz61_1
          try clear hcz61_2
          try clear hcz61_3
          try clear hcz61_4
          try clear hcz63_0
          try clear hcz63_1
          try clear hcz63_2
          try clear hcz63_3
          try clear hcz63_4
          try clear hcz66_0
          try clear hcz66_1
          try clear hcz66_2
          try clear hcz66_3
          try clear hcz66_4
          try clear hcz66_5
          try clear hcz66_6
          try clear hcz66_7
          try clear hcz66_8
          try clear hcz67_0
          try clear hcz67_1
          try clear hcz67_2
          try clear hcz67_3
          try clear hcz67_4
          try clear hcz69_0
          try clear hcz69_1
          try clear hcz69_2
          try clear hcz69_3
          try clear hcz69_4
          try clear hcz72_0
          try clear hcz72_1
          try clear hcz72_2
          try clear hcz72_3
          try clear hcz72_4
          try clear hcz72_5
          try clear hcz72_6
          try clear hcz72_7
          try clear hcz72_8
          try clear hcz73_0
          try clear hcz73_1
          try clear hcz73_2
          try clear hcz73_3
          try clear hcz73_4
          try clear hcz75_0
          try clear hcz75_1
          try clear hcz75_2
          try clear hcz75_3
          try clear hcz75_4
          try clear hcz77_0
          try clear hcz77_1
          try clear hcz77_2
          try clear hcz77_3
          try clear hcz77_4
          try clear hcz77_5
          try clear hcz77_6
          try clear hcz77_7
          try clear hcz77_8
          try clear hcz78_0
          try clear hcz78_1
          try clear hcz78_2
          try clear hcz78_3
          try clear hcz78_4
          try clear hcz80_0
          try clear hcz80_1
          try clear hcz80_2
          try clear hcz80_3
          try clear hcz80_4
          try clear hcz82_0
          try clear hcz82_1
          try clear hcz82_2
          try clear hcz82_3
          try clear hcz82_4
          try clear hcz82_5
          try clear hcz82_6
          try clear hcz82_7
          try clear hcz82_8
          try clear hcz83_0
          try clear hcz83_1
          try clear hcz83_2
          try clear hcz83_3
          try clear hcz83_4
          try clear hcz85_0
          try clear hcz85_1
          try clear hcz85_2
          try clear hcz85_3
          try clear hcz85_4
          try clear hcz87_0
          try clear hcz87_1
          try clear hcz87_2
          try clear hcz87_3
          try clear hcz87_4
          try clear hcz87_5
          try clear hcz87_6
          try clear hcz87_7
          try clear hcz87_8
          try clear hcz88_0
          try clear hcz88_1
          try clear hcz88_2
          try clear hcz88_3
          try clear hcz88_4
          try clear hcz90_0
          try clear hcz90_1
          try clear hcz90_2
          try clear hcz90_3
          try clear hcz90_4
          try clear hcz92_0
          try clear hcz92_1
          try clear hcz92_2
          try clear hcz92_3
          try clear hcz92_4
          try clear hcz92_5
          try clear hcz92_6
          try clear hcz92_7
          try clear hcz92_8
          try clear hcz93_0
          try clear hcz93_1
          try clear hcz93_2
          try clear hcz93_3
          try clear hcz93_4
          try clear hfz100_0
          try clear hfz100_1
          try clear hfz100_2
          try clear hfz100_3
          try clear hfz100_4
          try clear hfz100_5
          try clear hfz100_6
          try clear hfz100_7
          try clear hfz100_8
          try clear hfz104_0
          try clear hfz104_1
          try clear hfz104_2
          try clear hfz104_3
          try clear hfz104_4
          try clear hfz104_5
          try clear hfz104_6
          try clear hfz104_7
          try clear hfz104_8
          try clear hfz106_0
          try clear hfz106_1
          try clear hfz106_2
          try clear hfz106_3
          try clear hfz106_4
          try clear hfz106_5
          try clear hfz106_6
          try clear hfz106_7
          try clear hfz106_8
          try clear hfz107_0
          try clear hfz107_1
          try clear hfz107_2
          try clear hfz107_3
          try clear hfz107_4
          try clear hfz12_2
          try clear hfz12_3
          try clear hfz12_4
          try clear hfz12_5
          try clear hfz12_6
          try clear hfz12_7
          try clear hfz12_8
          try clear hfz13_0
          try clear hfz13_1
          try clear hfz13_2
          try clear hfz13_3
          try clear hfz13_4
          try clear hfz15_0
          try clear hfz15_1
          try clear hfz15_2
          try clear hfz15_3
          try clear hfz15_4
          try clear hfz18_0
          try clear hfz18_1
          try clear hfz18_2
          try clear hfz18_3
          try clear hfz18_4
          try clear hfz18_5
          try clear hfz18_6
          try clear hfz18_7
          try clear hfz18_8
          try clear hfz19_0
          try clear hfz19_1
          try clear hfz19_2
          try clear hfz19_3
          try clear hfz19_4
          try clear hfz21_0
          try clear hfz21_1
          try clear hfz21_2
          try clear hfz21_3
          try clear hfz21_4
          try clear hfz24_0
          try clear hfz24_1
          try clear hfz24_2
          try clear hfz24_3
          try clear hfz24_4
          try clear hfz24_5
          try clear hfz24_6
          try clear hfz24_7
          try clear hfz24_8
          try clear hfz25_0
          try clear hfz25_1
          try clear hfz25_2
          try clear hfz25_3
          try clear hfz25_4
          try clear hfz27_0
          try clear hfz27_1
          try clear hfz27_2
          try clear hfz27_3
          try clear hfz27_4
          try clear hfz30_0
          try clear hfz30_1
          try clear hfz30_2
          try clear hfz30_3
          try clear hfz30_4
          try clear hfz30_5
          try clear hfz30_6
          try clear hfz30_7
          try clear hfz30_8
          try clear hfz31_0
          try clear hfz31_1
          try clear hfz31_2
          try clear hfz31_3
          try clear hfz31_4
          try clear hfz33_0
          try clear hfz33_1
          try clear hfz33_2
          try clear hfz33_3
          try clear hfz33_4
          try clear hfz36_0
          try clear hfz36_1
          try clear hfz36_2
          try clear hfz36_3
          try clear hfz36_4
          try clear hfz36_5
          try clear hfz36_6
          try clear hfz36_7
          try clear hfz36_8
          try clear hfz37_0
          try clear hfz37_1
          try clear hfz37_2
          try clear hfz37_3
          try clear hfz37_4
          try clear hfz39_0
          try clear hfz39_1
          try clear hfz39_2
          try clear hfz39_3
          try clear hfz39_4
          try clear hfz41_0
          try clear hfz41_1
          try clear hfz41_2
          try clear hfz41_3
          try clear hfz41_4
          try clear hfz41_5
          try clear hfz41_6
          try clear hfz41_7
          try clear hfz41_8
          try clear hfz42_0
          try clear hfz42_1
          try clear hfz42_2
          try clear hfz42_3
          try clear hfz42_4
          try clear hfz44_0
          try clear hfz44_1
          try clear hfz44_2
          try clear hfz44_3
          try clear hfz44_4
          try clear hfz48_0
          try clear hfz48_1
          try clear hfz48_2
          try clear hfz48_3
          try clear hfz48_4
          try clear hfz48_5
          try clear hfz48_6
          try clear hfz48_7
          try clear hfz48_8
          try clear hfz49_0
          try clear hfz49_1
          try clear hfz49_2
          try clear hfz49_3
          try clear hfz49_4
          try clear hfz51_0
          try clear hfz51_1
          try clear hfz51_2
          try clear hfz51_3
          try clear hfz51_4
          try clear hfz54_0
          try clear hfz54_1
          try clear hfz54_2
          try clear hfz54_3
          try clear hfz54_4
          try clear hfz54_5
          try clear hfz54_6
          try clear hfz54_7
          try clear hfz54_8
          try clear hfz55_0
          try clear hfz55_1
          try clear hfz55_2
          try clear hfz55_3
          try clear hfz55_4
          try clear hfz57_0
          try clear hfz57_1
          try clear hfz57_2
          try clear hfz57_3
          try clear hfz57_4
          try clear hfz60_0
          try clear hfz60_1
          try clear hfz60_2
          try clear hfz60_3
          try clear hfz60_4
          try clear hfz60_5
          try clear hfz60_6
          try clear hfz60_7
          try clear hfz60_8
          try clear hfz61_0
          try clear hfz61_1
          try clear hfz61_2
          try clear hfz61_3
          try clear hfz61_4
          try clear hfz63_0
          try clear hfz63_1
          try clear hfz63_2
          try clear hfz63_3
          try clear hfz63_4
          try clear hfz66_0
          try clear hfz66_1
          try clear hfz66_2
          try clear hfz66_3
          try clear hfz66_4
          try clear hfz66_5
          try clear hfz66_6
          try clear hfz66_7
          try clear hfz66_8
          try clear hfz67_0
          try clear hfz67_1
          try clear hfz67_2
          try clear hfz67_3
          try clear hfz67_4
          try clear hfz69_0
          try clear hfz69_1
          try clear hfz69_2
          try clear hfz69_3
          try clear hfz69_4
          try clear hfz72_0
          try clear hfz72_1
          try clear hfz72_2
          try clear hfz72_3
          try clear hfz72_4
          try clear hfz72_5
          try clear hfz72_6
          try clear hfz72_7
          try clear hfz72_8
          try clear hfz73_0
          try clear hfz73_1
          try clear hfz73_2
          try clear hfz73_3
          try clear hfz73_4
          try clear hfz75_0
          try clear hfz75_1
          try clear hfz75_2
          try clear hfz75_3
          try clear hfz75_4
          try clear hfz77_0
          try clear hfz77_1
          try clear hfz77_2
          try clear hfz77_3
          try clear hfz77_4
          try clear hfz77_5
          try clear hfz77_6
          try clear hfz77_7
          try clear hfz77_8
          try clear hfz78_0
          try clear hfz78_1
          try clear hfz78_2
          try clear hfz78_3
          try clear hfz78_4
          try clear hfz80_0
          try clear hfz80_1
          try clear hfz80_2
          try clear hfz80_3
          try clear hfz80_4
          try clear hfz82_0
          try clear hfz82_1
          try clear hfz82_2
          try clear hfz82_3
          try clear hfz82_4
          try clear hfz82_5
          try clear hfz82_6
          try clear hfz82_7
          try clear hfz82_8
          try clear hfz83_0
          try clear hfz83_1
          try clear hfz83_2
          try clear hfz83_3
          try clear hfz83_4
          try clear hfz85_0
          try clear hfz85_1
          try clear hfz85_2
          try clear hfz85_3
          try clear hfz85_4
          try clear hfz87_0
          try clear hfz87_1
          try clear hfz87_2
          try clear hfz87_3
          try clear hfz87_4
          try clear hfz87_5
          try clear hfz87_6
          try clear hfz87_7
          try clear hfz87_8
          try clear hfz88_0
          try clear hfz88_1
          try clear hfz88_2
          try clear hfz88_3
          try clear hfz88_4
          try clear hfz90_0
          try clear hfz90_1
          try clear hfz90_2
          try clear hfz90_3
          try clear hfz90_4
          try clear hfz92_0
          try clear hfz92_1
          try clear hfz92_2
          try clear hfz92_3
          try clear hfz92_4
          try clear hfz92_5
          try clear hfz92_6
          try clear hfz92_7
          try clear hfz92_8
          try clear hfz93_0
          try clear hfz93_1
          try clear hfz93_2
          try clear hfz93_3
          try clear hfz93_4
          obtain ⟨kq, x69_95, rfl, HA, HJ95, BK253, BK254, HB⟩ := hcut
          cases kq with
          | zero => exact absurd HA.out (by simp [redoubtlaw15_PickNone.j1])
          | succ kj95 =>
            have H := HA.out
            clear HA
            simp only [redoubtlaw15_PickNone.j1] at H
            by_cases c109 : x69_95 = true
            · subst c109
              have H1 : (some false) = some r := by rw [if_pos rfl] at H; exact H
              clear H
              have H := H1
              clear H1
              exact absurd (HRT.out.symm.trans (Option.some.inj H).symm) (by decide)
            · replace c109 := Bool.eq_false_iff.mpr c109
              subst c109
              have H1 : ((redoubtlaw15_every.f).bind fun bt258 => ((pick_Matches.f kj95 bt258.1 bt258.2.1 bt258.2.2.1 bt258.2.2.2.1 bt258.2.2.2.2.1 bt258.2.2.2.2.2.1 bt258.2.2.2.2.2.2.1 bt258.2.2.2.2.2.2.2.1 bt258.2.2.2.2.2.2.2.2 a1_0 a1_1 a1_2 a1_3 a1_4).bind fun t268 => (if t268 = true then (if a1_3 ≥ 0 then (redoubtlaw15_PickNone.j2 kj95 a1_0 a1_1 a1_2 a1_3 a1_4 a1_0 a1_0 a1_1 a1_1 a1_2 a1_3 a1_3 bt258.2.2.2.2.2.2.2.1 bt258.2.2.2.2.2.2.2.2) else (redoubtlaw15_PickNone.j2 kj95 a1_0 a1_1 a1_2 a1_3 a1_4 a1_0 a1_0 a1_1 a1_1 a1_2 bt258.2.2.2.2.2.1 bt258.2.2.2.2.2.2.1 bt258.2.2.2.2.2.2.2.1 bt258.2.2.2.2.2.2.2.2)) else (some false)))) = some r := by rw [if_neg (show ¬ (false = true) by decide)] at H; exact H
              clear H
              have H := H1
              clear H1
              replace H := Option.bind_eq_some_iff.mp H
              obtain ⟨⟨t258, t259, t260, t261, t262, t263, t264, t265, t266⟩, A1100, H⟩ := H
              replace H : ((pick_Matches.f kj95 t258 t259 t260 t261 t262 t263 t264 t265 t266 a1_0 a1_1 a1_2 a1_3 a1_4).bind fun t268 => (if t268 = true then (if a1_3 ≥ 0 then (redoubtlaw15_PickNone.j2 kj95 a1_0 a1_1 a1_2 a1_3 a1_4 a1_0 a1_0 a1_1 a1_1 a1_2 a1_3 a1_3 t265 t266) else (redoubtlaw15_PickNone.j2 kj95 a1_0 a1_1 a1_2 a1_3 a1_4 a1_0 a1_0 a1_1 a1_1 a1_2 t263 t264 t265 t266)) else (some false))) = some r := H
              have A110 := Aside0.mk A1100
              clear A1100
              replace H := Option.bind_eq_some_iff.mp H
              obtain ⟨t268, A1110, H⟩ := H
              replace H : (if t268 = true then (if a1_3 ≥ 0 then (redoubtlaw15_PickNone.j2 kj95 a1_0 a1_1 a1_2 a1_3 a1_4 a1_0 a1_0 a1_1 a1_1 a1_2 a1_3 a1_3 t265 t266) else (redoubtlaw15_PickNone.j2 kj95 a1_0 a1_1 a1_2 a1_3 a1_4 a1_0 a1_0 a1_1 a1_1 a1_2 t263 t264 t265 t266)) else (some false)) = some r := H
              have A111 := Aside0.mk A1110
              clear A1110
              by_cases c112 : t268 = true
              · subst c112
                have H1 : (if a1_3 ≥ 0 then (redoubtlaw15_PickNone.j2 kj95 a1_0 a1_1 a1_2 a1_3 a1_4 a1_0 a1_0 a1_1 a1_1 a1_2 a1_3 a1_3 t265 t266) else (redoubtlaw15_PickNone.j2 kj95 a1_0 a1_1 a1_2 a1_3 a1_4 a1_0 a1_0 a1_1 a1_1 a1_2 t263 t264 t265 t266)) = some r := by rw [if_pos rfl] at H; exact H
                clear H
                have H := H1
                clear H1
                have HC113 := Aside0.mk H
                clear H
                go_upto_if 92 with (first | ((with_reducible refine gate_callee (f := 16) rfl ?_); refine goesL_ (some 70) rfl rfl Try.func16 (by kernel_rfl) rfl #[] rfl (by (try simp only [List.map_toArray, List.map_cons, List.map_nil]); first | done | rfl | (simp only [List.length_drop, List.length_take]; rfl)) ?_; (with_reducible refine (redoubtlaw15_every.calls  t258 t259 t260 t261 t262 t263 t264 t265 t266 _ A110.out).mono ?_); rintro e w114 ⟨rfl, hb⟩; refine ⟨_, rfl, ?_⟩; have n0_ := Aside0.mk (blk_below (g := gb253) (o := .cells #[.string a0_0, .string a0_1, .string a0_2, .string a0_3, .int .i64 a0_4, .int .i64 a0_5, .int .i64 a0_6, .int .i64 a0_7, .int .i64 a0_8] 37 (0, 0)) (by (with_reducible repeat (first | refine blk_drewN ?_ _ | refine blk_drew ?_ | refine blk_alloc ?_ _)); exact BK253.out) hb); have n1_ := Aside0.mk (blk_below (g := gb254) (o := .cells #[.string a1_0, .string a1_1, .int .i64 a1_2, .int .i64 a1_3, .int .i64 a1_4] 24 (0, 0)) (by (with_reducible repeat (first | refine blk_drewN ?_ _ | refine blk_drew ?_ | refine blk_alloc ?_ _)); exact BK254.out) hb); have n2_ := Aside0.mk (below_step (by repeat (first | (with_reducible first | exact HB.out | apply below_alloc | apply pw_below_drewN | apply below_drew1 | refine below_set ?_ GE253.out | refine below_set ?_ GE254.out) | exact HB.out)) hb); clear BK253; clear BK254; clear HB; have BK253 := n0_; have BK254 := n1_; have HB := n2_; clear n0_ n1_ n2_; (try clear hb); (try clear hb2); (try clear hk); (try clear hi)) | ((with_reducible refine gate_dst (N := 5) rfl ?_); (try (refine gate_guard (by rfl) ?_; dsimp only)); refine box_event ?hg (N := 5) ?hd (cs := #[.string (⟨#[]⟩ : ByteArray), .string (⟨#[]⟩ : ByteArray), .string (⟨#[]⟩ : ByteArray), .string (⟨#[]⟩ : ByteArray), .int .i64 0, .int .i64 0, .int .i64 0, .int .i64 0, .int .i64 0]) (t := 37) ?hr ?_; (case hd => rfl); (case hg => rfl); (case hr => first | (go_simp; done) | (go_simp; rfl)); intro gb267 hg w115 hbox hb; have n0_ := Aside0.mk (blk_below (g := gb253) (o := .cells #[.string a0_0, .string a0_1, .string a0_2, .string a0_3, .int .i64 a0_4, .int .i64 a0_5, .int .i64 a0_6, .int .i64 a0_7, .int .i64 a0_8] 37 (0, 0)) (by (with_reducible repeat (first | refine blk_drewN ?_ _ | refine blk_drew ?_ | refine blk_alloc ?_ _)); exact BK253.out) hb); have n1_ := Aside0.mk (blk_below (g := gb254) (o := .cells #[.string a1_0, .string a1_1, .int .i64 a1_2, .int .i64 a1_3, .int .i64 a1_4] 24 (0, 0)) (by (with_reducible repeat (first | refine blk_drewN ?_ _ | refine blk_drew ?_ | refine blk_alloc ?_ _)); exact BK254.out) hb); have n2_ := Aside0.mk (below_step (by repeat (first | (with_reducible first | exact HB.out | apply below_alloc | apply pw_below_drewN | apply below_drew1 | refine below_set ?_ GE253.out | refine below_set ?_ GE254.out) | exact HB.out)) hb); have n3_ := Aside0.mk (hbox); have n4_ := Aside0.mk ((by rw [hg]; exact (below_size (by repeat (first | (with_reducible first | exact HB.out | apply below_alloc | apply pw_below_drewN | apply below_drew1 | refine below_set ?_ GE253.out | refine below_set ?_ GE254.out) | exact HB.out))) : w.heap.size ≤ gb267)); have n5_ := Aside0.mk ((by rw [hg]; exact (below_size (by repeat (first | (with_reducible first | exact HB.out | apply below_alloc | apply pw_below_drewN | apply below_drew1 | refine below_set ?_ GE253.out | refine below_set ?_ GE254.out) | exact HB.out))) : w.heap.size ≤ gb267)); have n6_ := Aside0.mk ((by rw [hg]; exact Nat.ne_of_lt (blk_lt (g := gb253) (o := .cells #[.string a0_0, .string a0_1, .string a0_2, .string a0_3, .int .i64 a0_4, .int .i64 a0_5, .int .i64 a0_6, .int .i64 a0_7, .int .i64 a0_8] 37 (0, 0)) (by (with_reducible repeat (first | refine blk_drewN ?_ _ | refine blk_drew ?_ | refine blk_alloc ?_ _)); exact BK253.out)) : gb253 ≠ gb267)); have n7_ := Aside0.mk ((by rw [hg]; exact Nat.ne_of_gt (blk_lt (g := gb253) (o := .cells #[.string a0_0, .string a0_1, .string a0_2, .string a0_3, .int .i64 a0_4, .int .i64 a0_5, .int .i64 a0_6, .int .i64 a0_7, .int .i64 a0_8] 37 (0, 0)) (by (with_reducible repeat (first | refine blk_drewN ?_ _ | refine blk_drew ?_ | refine blk_alloc ?_ _)); exact BK253.out)) : gb267 ≠ gb253)); have n8_ := Aside0.mk ((by rw [hg]; exact Nat.ne_of_lt (blk_lt (g := gb254) (o := .cells #[.string a1_0, .string a1_1, .int .i64 a1_2, .int .i64 a1_3, .int .i64 a1_4] 24 (0, 0)) (by (with_reducible repeat (first | refine blk_drewN ?_ _ | refine blk_drew ?_ | refine blk_alloc ?_ _)); exact BK254.out)) : gb254 ≠ gb267)); have n9_ := Aside0.mk ((by rw [hg]; exact Nat.ne_of_gt (blk_lt (g := gb254) (o := .cells #[.string a1_0, .string a1_1, .int .i64 a1_2, .int .i64 a1_3, .int .i64 a1_4] 24 (0, 0)) (by (with_reducible repeat (first | refine blk_drewN ?_ _ | refine blk_drew ?_ | refine blk_alloc ?_ _)); exact BK254.out)) : gb267 ≠ gb254)); clear BK253; clear BK254; clear HB; have BK253 := n0_; have BK254 := n1_; have HB := n2_; have BK267 := n3_; have GW267 := n4_; have GE267 := n5_; have NB253_267 := n6_; have NB267_253 := n7_; have NB254_267 := n8_; have NB267_254 := n9_; clear n0_ n1_ n2_ n3_ n4_ n5_ n6_ n7_ n8_ n9_; clear hb hbox hg; have hnb116 := NB267_253.out; have hnc116 := NB253_267.out; have hnb117 := NB267_254.out; have hnc117 := NB254_267.out; have hcz118_0 : w115.cell? ⟨gb267, 0, none⟩ = some (.string (⟨#[]⟩ : ByteArray)) := (blk_cell BK267.out 0).trans rfl; have hcz118_1 : w115.cell? ⟨gb267, 1, none⟩ = some (.string (⟨#[]⟩ : ByteArray)) := (blk_cell BK267.out 1).trans rfl; have hcz118_2 : w115.cell? ⟨gb267, 2, none⟩ = some (.string (⟨#[]⟩ : ByteArray)) := (blk_cell BK267.out 2).trans rfl; have hcz118_3 : w115.cell? ⟨gb267, 3, none⟩ = some (.string (⟨#[]⟩ : ByteArray)) := (blk_cell BK267.out 3).trans rfl; have hcz118_4 : w115.cell? ⟨gb267, 4, none⟩ = some (.int .i64 0) := (blk_cell BK267.out 4).trans rfl; have hcz118_5 : w115.cell? ⟨gb267, 5, none⟩ = some (.int .i64 0) := (blk_cell BK267.out 5).trans rfl; have hcz118_6 : w115.cell? ⟨gb267, 6, none⟩ = some (.int .i64 0) := (blk_cell BK267.out 6).trans rfl; have hcz118_7 : w115.cell? ⟨gb267, 7, none⟩ = some (.int .i64 0) := (blk_cell BK267.out 7).trans rfl; have hcz118_8 : w115.cell? ⟨gb267, 8, none⟩ = some (.int .i64 0) := (blk_cell BK267.out 8).trans rfl; have hfz118_0 := blk_frozen BK267.out 0; have hfz118_1 := blk_frozen BK267.out 1; have hfz118_2 := blk_frozen BK267.out 2; have hfz118_3 := blk_frozen BK267.out 3; have hfz118_4 := blk_frozen BK267.out 4; have hfz118_5 := blk_frozen BK267.out 5; have hfz118_6 := blk_frozen BK267.out 6; have hfz118_7 := blk_frozen BK267.out 7; have hfz118_8 := blk_frozen BK267.out 8; have hnb119 := NB254_253.out; have hnc119 := NB253_254.out; have hcz120_0 : w115.cell? ⟨gb254, 0, none⟩ = some (.string a1_0) := (blk_cell BK254.out 0).trans rfl; have hcz120_1 : w115.cell? ⟨gb254, 1, none⟩ = some (.string a1_1) := (blk_cell BK254.out 1).trans rfl; have hcz120_2 : w115.cell? ⟨gb254, 2, none⟩ = some (.int .i64 a1_2) := (blk_cell BK254.out 2).trans rfl; have hcz120_3 : w115.cell? ⟨gb254, 3, none⟩ = some (.int .i64 a1_3) := (blk_cell BK254.out 3).trans rfl; have hcz120_4 : w115.cell? ⟨gb254, 4, none⟩ = some (.int .i64 a1_4) := (blk_cell BK254.out 4).trans rfl; have hfz120_0 := blk_frozen BK254.out 0; have hfz120_1 := blk_frozen BK254.out 1; have hfz120_2 := blk_frozen BK254.out 2; have hfz120_3 := blk_frozen BK254.out 3; have hfz120_4 := blk_frozen BK254.out 4) | ((with_reducible refine gate_callee (f := 14) rfl ?_); refine goesL_ (some 73) rfl rfl Try.func14 (by kernel_rfl) rfl #[.agg #[.string t258, .string t259, .string t260, .string t261, .int .i64 t262, .int .i64 t263, .int .i64 t264, .int .i64 t265, .int .i64 t266], .agg #[.string a1_0, .string a1_1, .int .i64 a1_2, .int .i64 a1_3, .int .i64 a1_4]] rfl (by (try simp only [List.map_toArray, List.map_cons, List.map_nil]); first | done | rfl | (simp only [List.length_drop, List.length_take]; rfl)) ?_; (with_reducible refine (pick_Matches.calls kj95 t258 t259 t260 t261 t262 t263 t264 t265 t266 a1_0 a1_1 a1_2 a1_3 a1_4 true _ A111.out).mono ?_); rintro e w121 ⟨rfl, hb⟩; refine ⟨_, rfl, ?_⟩; have n0_ := Aside0.mk (blk_below (g := gb253) (o := .cells #[.string a0_0, .string a0_1, .string a0_2, .string a0_3, .int .i64 a0_4, .int .i64 a0_5, .int .i64 a0_6, .int .i64 a0_7, .int .i64 a0_8] 37 (0, 0)) (by (with_reducible repeat (first | refine blk_drewN ?_ _ | refine blk_drew ?_ | refine blk_alloc ?_ _)); refine blk_far ?_ NB253_267.out _; (with_reducible repeat (first | refine blk_drewN ?_ _ | refine blk_drew ?_ | refine blk_alloc ?_ _)); refine blk_far ?_ NB253_267.out _; (with_reducible repeat (first | refine blk_drewN ?_ _ | refine blk_drew ?_ | refine blk_alloc ?_ _)); refine blk_far ?_ NB253_267.out _; (with_reducible repeat (first | refine blk_drewN ?_ _ | refine blk_drew ?_ | refine blk_alloc ?_ _)); refine blk_far ?_ NB253_267.out _; (with_reducible repeat (first | refine blk_drewN ?_ _ | refine blk_drew ?_ | refine blk_alloc ?_ _)); refine blk_far ?_ NB253_267.out _; (with_reducible repeat (first | refine blk_drewN ?_ _ | refine blk_drew ?_ | refine blk_alloc ?_ _)); refine blk_far ?_ NB253_267.out _; (with_reducible repeat (first | refine blk_drewN ?_ _ | refine blk_drew ?_ | refine blk_alloc ?_ _)); refine blk_far ?_ NB253_267.out _; (with_reducible repeat (first | refine blk_drewN ?_ _ | refine blk_drew ?_ | refine blk_alloc ?_ _)); refine blk_far ?_ NB253_267.out _; (with_reducible repeat (first | refine blk_drewN ?_ _ | refine blk_drew ?_ | refine blk_alloc ?_ _)); refine blk_far ?_ NB253_267.out _; (with_reducible repeat (first | refine blk_drewN ?_ _ | refine blk_drew ?_ | refine blk_alloc ?_ _)); exact BK253.out) hb); have n1_ := Aside0.mk (blk_below (g := gb254) (o := .cells #[.string a1_0, .string a1_1, .int .i64 a1_2, .int .i64 a1_3, .int .i64 a1_4] 24 (0, 0)) (by (with_reducible repeat (first | refine blk_drewN ?_ _ | refine blk_drew ?_ | refine blk_alloc ?_ _)); refine blk_far ?_ NB254_267.out _; (with_reducible repeat (first | refine blk_drewN ?_ _ | refine blk_drew ?_ | refine blk_alloc ?_ _)); refine blk_far ?_ NB254_267.out _; (with_reducible repeat (first | refine blk_drewN ?_ _ | refine blk_drew ?_ | refine blk_alloc ?_ _)); refine blk_far ?_ NB254_267.out _; (with_reducible repeat (first | refine blk_drewN ?_ _ | refine blk_drew ?_ | refine blk_alloc ?_ _)); refine blk_far ?_ NB254_267.out _; (with_reducible repeat (first | refine blk_drewN ?_ _ | refine blk_drew ?_ | refine blk_alloc ?_ _)); refine blk_far ?_ NB254_267.out _; (with_reducible repeat (first | refine blk_drewN ?_ _ | refine blk_drew ?_ | refine blk_alloc ?_ _)); refine blk_far ?_ NB254_267.out _; (with_reducible repeat (first | refine blk_drewN ?_ _ | refine blk_drew ?_ | refine blk_alloc ?_ _)); refine blk_far ?_ NB254_267.out _; (with_reducible repeat (first | refine blk_drewN ?_ _ | refine blk_drew ?_ | refine blk_alloc ?_ _)); refine blk_far ?_ NB254_267.out _; (with_reducible repeat (first | refine blk_drewN ?_ _ | refine blk_drew ?_ | refine blk_alloc ?_ _)); refine blk_far ?_ NB254_267.out _; (with_reducible repeat (first | refine blk_drewN ?_ _ | refine blk_drew ?_ | refine blk_alloc ?_ _)); exact BK254.out) hb); have n2_ := Aside0.mk (blk_below (g := gb267) (o := .cells #[.string t258, .string t259, .string t260, .string t261, .int .i64 t262, .int .i64 t263, .int .i64 t264, .int .i64 t265, .int .i64 t266] 37 (0, 0)) (by (with_reducible repeat (first | refine blk_drewN ?_ _ | refine blk_drew ?_ | refine blk_alloc ?_ _)); refine blk_put (cs := #[.string t258, .string t259, .string t260, .string t261, .int .i64 t262, .int .i64 t263, .int .i64 t264, .int .i64 t265, .int .i64 0]) ?_ 8 _ rfl; (with_reducible repeat (first | refine blk_drewN ?_ _ | refine blk_drew ?_ | refine blk_alloc ?_ _)); refine blk_put (cs := #[.string t258, .string t259, .string t260, .string t261, .int .i64 t262, .int .i64 t263, .int .i64 t264, .int .i64 0, .int .i64 0]) ?_ 7 _ rfl; (with_reducible repeat (first | refine blk_drewN ?_ _ | refine blk_drew ?_ | refine blk_alloc ?_ _)); refine blk_put (cs := #[.string t258, .string t259, .string t260, .string t261, .int .i64 t262, .int .i64 t263, .int .i64 0, .int .i64 0, .int .i64 0]) ?_ 6 _ rfl; (with_reducible repeat (first | refine blk_drewN ?_ _ | refine blk_drew ?_ | refine blk_alloc ?_ _)); refine blk_put (cs := #[.string t258, .string t259, .string t260, .string t261, .int .i64 t262, .int .i64 0, .int .i64 0, .int .i64 0, .int .i64 0]) ?_ 5 _ rfl; (with_reducible repeat (first | refine blk_drewN ?_ _ | refine blk_drew ?_ | refine blk_alloc ?_ _)); refine blk_put (cs := #[.string t258, .string t259, .string t260, .string t261, .int .i64 0, .int .i64 0, .int .i64 0, .int .i64 0, .int .i64 0]) ?_ 4 _ rfl; (with_reducible repeat (first | refine blk_drewN ?_ _ | refine blk_drew ?_ | refine blk_alloc ?_ _)); refine blk_put (cs := #[.string t258, .string t259, .string t260, .string (⟨#[]⟩ : ByteArray), .int .i64 0, .int .i64 0, .int .i64 0, .int .i64 0, .int .i64 0]) ?_ 3 _ rfl; (with_reducible repeat (first | refine blk_drewN ?_ _ | refine blk_drew ?_ | refine blk_alloc ?_ _)); refine blk_put (cs := #[.string t258, .string t259, .string (⟨#[]⟩ : ByteArray), .string (⟨#[]⟩ : ByteArray), .int .i64 0, .int .i64 0, .int .i64 0, .int .i64 0, .int .i64 0]) ?_ 2 _ rfl; (with_reducible repeat (first | refine blk_drewN ?_ _ | refine blk_drew ?_ | refine blk_alloc ?_ _)); refine blk_put (cs := #[.string t258, .string (⟨#[]⟩ : ByteArray), .string (⟨#[]⟩ : ByteArray), .string (⟨#[]⟩ : ByteArray), .int .i64 0, .int .i64 0, .int .i64 0, .int .i64 0, .int .i64 0]) ?_ 1 _ rfl; (with_reducible repeat (first | refine blk_drewN ?_ _ | refine blk_drew ?_ | refine blk_alloc ?_ _)); refine blk_put (cs := #[.string (⟨#[]⟩ : ByteArray), .string (⟨#[]⟩ : ByteArray), .string (⟨#[]⟩ : ByteArray), .string (⟨#[]⟩ : ByteArray), .int .i64 0, .int .i64 0, .int .i64 0, .int .i64 0, .int .i64 0]) ?_ 0 _ rfl; (with_reducible repeat (first | refine blk_drewN ?_ _ | refine blk_drew ?_ | refine blk_alloc ?_ _)); exact BK267.out) hb); have n3_ := Aside0.mk (below_step (by repeat (first | (with_reducible first | exact HB.out | apply below_alloc | apply pw_below_drewN | apply below_drew1 | refine below_set ?_ GE253.out | refine below_set ?_ GE254.out | refine below_set ?_ GE267.out) | exact HB.out)) hb); clear BK253; clear BK254; clear BK267; clear HB; have BK253 := n0_; have BK254 := n1_; have BK267 := n2_; have HB := n3_; clear n0_ n1_ n2_ n3_; (try clear hb); (try clear hb2); (try clear hk); (try clear hi); have hcz122_0 : w121.cell? ⟨gb254, 0, none⟩ = some (.string a1_0) := (blk_cell BK254.out 0).trans rfl; have hcz122_1 : w121.cell? ⟨gb254, 1, none⟩ = some (.string a1_1) := (blk_cell BK254.out 1).trans rfl; have hcz122_2 : w121.cell? ⟨gb254, 2, none⟩ = some (.int .i64 a1_2) := (blk_cell BK254.out 2).trans rfl; have hcz122_3 : w121.cell? ⟨gb254, 3, none⟩ = some (.int .i64 a1_3) := (blk_cell BK254.out 3).trans rfl; have hcz122_4 : w121.cell? ⟨gb254, 4, none⟩ = some (.int .i64 a1_4) := (blk_cell BK254.out 4).trans rfl; have hfz122_0 := blk_frozen BK254.out 0; have hfz122_1 := blk_frozen BK254.out 1; have hfz122_2 := blk_frozen BK254.out 2; have hfz122_3 := blk_frozen BK254.out 3; have hfz122_4 := blk_frozen BK254.out 4; have hcz123_0 : w121.cell? ⟨gb267, 0, none⟩ = some (.string t258) := (blk_cell BK267.out 0).trans rfl; have hcz123_1 : w121.cell? ⟨gb267, 1, none⟩ = some (.string t259) := (blk_cell BK267.out 1).trans rfl; have hcz123_2 : w121.cell? ⟨gb267, 2, none⟩ = some (.string t260) := (blk_cell BK267.out 2).trans rfl; have hcz123_3 : w121.cell? ⟨gb267, 3, none⟩ = some (.string t261) := (blk_cell BK267.out 3).trans rfl; have hcz123_4 : w121.cell? ⟨gb267, 4, none⟩ = some (.int .i64 t262) := (blk_cell BK267.out 4).trans rfl; have hcz123_5 : w121.cell? ⟨gb267, 5, none⟩ = some (.int .i64 t263) := (blk_cell BK267.out 5).trans rfl; have hcz123_6 : w121.cell? ⟨gb267, 6, none⟩ = some (.int .i64 t264) := (blk_cell BK267.out 6).trans rfl; have hcz123_7 : w121.cell? ⟨gb267, 7, none⟩ = some (.int .i64 t265) := (blk_cell BK267.out 7).trans rfl; have hcz123_8 : w121.cell? ⟨gb267, 8, none⟩ = some (.int .i64 t266) := (blk_cell BK267.out 8).trans rfl; have hfz123_0 := blk_frozen BK267.out 0; have hfz123_1 := blk_frozen BK267.out 1; have hfz123_2 := blk_frozen BK267.out 2; have hfz123_3 := blk_frozen BK267.out 3; have hfz123_4 := blk_frozen BK267.out 4; have hfz123_5 := blk_frozen BK267.out 5; have hfz123_6 := blk_frozen BK267.out 6; have hfz123_7 := blk_frozen BK267.out 7; have hfz123_8 := blk_frozen BK267.out 8))
                (try simp only [Act.put, List.setIfInBounds_toArray, List.set_cons_zero, List.set_cons_succ])
                go_cut [] (fun wc => ∃ (kq : Nat) (x268005_112 : Int) (x268006_112 : Int), Aside0 (redoubtlaw15_PickNone.j2 kq a1_0 a1_1 a1_2 a1_3 a1_4 a1_0 a1_0 a1_1 a1_1 a1_2 x268005_112 x268006_112 t265 t266 = some r) ∧ Aside0 (kq ≤ kj95) ∧ Aside0 (wc.heap[gb253]? = some (.cells #[.string a0_0, .string a0_1, .string a0_2, .string a0_3, .int .i64 a0_4, .int .i64 a0_5, .int .i64 a0_6, .int .i64 a0_7, .int .i64 a0_8] 37 (0, 0))) ∧ Aside0 (wc.heap[gb254]? = some (.cells #[.string a1_0, .string a1_1, .int .i64 a1_2, .int .i64 a1_3, .int .i64 a1_4] 24 (0, 0))) ∧ Aside0 (wc.heap[gb267]? = some (.cells #[.string a1_0, .string a1_0, .string a1_1, .string a1_1, .int .i64 a1_2, .int .i64 x268005_112, .int .i64 x268006_112, .int .i64 t265, .int .i64 t266] 37 (0, 0))) ∧ Aside0 (Below w.heap.size w wc))
                case first =>
                  have H := HC113.out
                  clear HC113
                  by_cases c124 : a1_3 ≥ 0
                  · rw [if_pos c124] at H
                    have c124b0 : decide (0 ≤ a1_3) = true := decide_eq_true c124
                    clear c124
                    (first | rw [c124b0] | (simp only [i64_w, i32_w]; rw [c124b0]) | skip)
                    have H' := Aside0.mk H
                    clear H
                    have hnb125 := NB254_253.out
                    have hnc125 := NB253_254.out
                    have hnb126 := NB254_267.out
                    have hnc126 := NB267_254.out
                    have hcz127_0 : w121.cell? ⟨gb254, 0, none⟩ = some (.string a1_0) := (blk_cell BK254.out 0).trans rfl
                    have hcz127_1 : w121.cell? ⟨gb254, 1, none⟩ = some (.string a1_1) := (blk_cell BK254.out 1).trans rfl
                    have hcz127_2 : w121.cell? ⟨gb254, 2, none⟩ = some (.int .i64 a1_2) := (blk_cell BK254.out 2).trans rfl
                    have hcz127_3 : w121.cell? ⟨gb254, 3, none⟩ = some (.int .i64 a1_3) := (blk_cell BK254.out 3).trans rfl
                    have hcz127_4 : w121.cell? ⟨gb254, 4, none⟩ = some (.int .i64 a1_4) := (blk_cell BK254.out 4).trans rfl
                    have hfz127_0 := blk_frozen BK254.out 0
                    have hfz127_1 := blk_frozen BK254.out 1
                    have hfz127_2 := blk_frozen BK254.out 2
                    have hfz127_3 := blk_frozen BK254.out 3
                    have hfz127_4 := blk_frozen BK254.out 4
                    have hnb128 := NB267_253.out
                    have hnc128 := NB253_267.out
                    have hcz129_0 : w121.cell? ⟨gb267, 0, none⟩ = some (.string t258) := (blk_cell BK267.out 0).trans rfl
                    have hcz129_1 : w121.cell? ⟨gb267, 1, none⟩ = some (.string t259) := (blk_cell BK267.out 1).trans rfl
                    have hcz129_2 : w121.cell? ⟨gb267, 2, none⟩ = some (.string t260) := (blk_cell BK267.out 2).trans rfl
                    have hcz129_3 : w121.cell? ⟨gb267, 3, none⟩ = some (.string t261) := (blk_cell BK267.out 3).trans rfl
                    have hcz129_4 : w121.cell? ⟨gb267, 4, none⟩ = some (.int .i64 t262) := (blk_cell BK267.out 4).trans rfl
                    have hcz129_5 : w121.cell? ⟨gb267, 5, none⟩ = some (.int .i64 t263) := (blk_cell BK267.out 5).trans rfl
                    have hcz129_6 : w121.cell? ⟨gb267, 6, none⟩ = some (.int .i64 t264) := (blk_cell BK267.out 6).trans rfl
                    have hcz129_7 : w121.cell? ⟨gb267, 7, none⟩ = some (.int .i64 t265) := (blk_cell BK267.out 7).trans rfl
                    have hcz129_8 : w121.cell? ⟨gb267, 8, none⟩ = some (.int .i64 t266) := (blk_cell BK267.out 8).trans rfl
                    have hfz129_0 := blk_frozen BK267.out 0
                    have hfz129_1 := blk_frozen BK267.out 1
                    have hfz129_2 := blk_frozen BK267.out 2
                    have hfz129_3 := blk_frozen BK267.out 3
                    have hfz129_4 := blk_frozen BK267.out 4
                    have hfz129_5 := blk_frozen BK267.out 5
                    have hfz129_6 := blk_frozen BK267.out 6
                    have hfz129_7 := blk_frozen BK267.out 7
                    have hfz129_8 := blk_frozen BK267.out 8
                    go_wp2
                    go_meet
                    case rel => exact ⟨_, (a1_3), (a1_3), H', ⟨by have := HJ2.out; have := HJ95.out; first | omega | exact Nat.le_refl _⟩, ⟨by (with_reducible repeat (first | refine blk_drewN ?_ _ | refine blk_drew ?_ | refine blk_alloc ?_ _)); refine blk_far ?_ NB253_267.out _; (with_reducible repeat (first | refine blk_drewN ?_ _ | refine blk_drew ?_ | refine blk_alloc ?_ _)); refine blk_far ?_ NB253_267.out _; (with_reducible repeat (first | refine blk_drewN ?_ _ | refine blk_drew ?_ | refine blk_alloc ?_ _)); refine blk_far ?_ NB253_267.out _; (with_reducible repeat (first | refine blk_drewN ?_ _ | refine blk_drew ?_ | refine blk_alloc ?_ _)); refine blk_far ?_ NB253_267.out _; (with_reducible repeat (first | refine blk_drewN ?_ _ | refine blk_drew ?_ | refine blk_alloc ?_ _)); refine blk_far ?_ NB253_267.out _; (with_reducible repeat (first | refine blk_drewN ?_ _ | refine blk_drew ?_ | refine blk_alloc ?_ _)); refine blk_far ?_ NB253_267.out _; (with_reducible repeat (first | refine blk_drewN ?_ _ | refine blk_drew ?_ | refine blk_alloc ?_ _)); refine blk_far ?_ NB253_267.out _; (with_reducible repeat (first | refine blk_drewN ?_ _ | refine blk_drew ?_ | refine blk_alloc ?_ _)); exact BK253.out⟩, ⟨by (with_reducible repeat (first | refine blk_drewN ?_ _ | refine blk_drew ?_ | refine blk_alloc ?_ _)); refine blk_far ?_ NB254_267.out _; (with_reducible repeat (first | refine blk_drewN ?_ _ | refine blk_drew ?_ | refine blk_alloc ?_ _)); refine blk_far ?_ NB254_267.out _; (with_reducible repeat (first | refine blk_drewN ?_ _ | refine blk_drew ?_ | refine blk_alloc ?_ _)); refine blk_far ?_ NB254_267.out _; (with_reducible repeat (first | refine blk_drewN ?_ _ | refine blk_drew ?_ | refine blk_alloc ?_ _)); refine blk_far ?_ NB254_267.out _; (with_reducible repeat (first | refine blk_drewN ?_ _ | refine blk_drew ?_ | refine blk_alloc ?_ _)); refine blk_far ?_ NB254_267.out _; (with_reducible repeat (first | refine blk_drewN ?_ _ | refine blk_drew ?_ | refine blk_alloc ?_ _)); refine blk_far ?_ NB254_267.out _; (with_reducible repeat (first | refine blk_drewN ?_ _ | refine blk_drew ?_ | refine blk_alloc ?_ _)); refine blk_far ?_ NB254_267.out _; (with_reducible repeat (first | refine blk_drewN ?_ _ | refine blk_drew ?_ | refine blk_alloc ?_ _)); exact BK254.out⟩, ⟨by (with_reducible repeat (first | refine blk_drewN ?_ _ | refine blk_drew ?_ | refine blk_alloc ?_ _)); refine blk_put (cs := #[.string a1_0, .string a1_0, .string a1_1, .string a1_1, .int .i64 a1_2, .int .i64 a1_3, .int .i64 t264, .int .i64 t265, .int .i64 t266]) ?_ 6 _ rfl; (with_reducible repeat (first | refine blk_drewN ?_ _ | refine blk_drew ?_ | refine blk_alloc ?_ _)); refine blk_put (cs := #[.string a1_0, .string a1_0, .string a1_1, .string a1_1, .int .i64 a1_2, .int .i64 t263, .int .i64 t264, .int .i64 t265, .int .i64 t266]) ?_ 5 _ rfl; (with_reducible repeat (first | refine blk_drewN ?_ _ | refine blk_drew ?_ | refine blk_alloc ?_ _)); refine blk_put (cs := #[.string a1_0, .string a1_0, .string a1_1, .string a1_1, .int .i64 t262, .int .i64 t263, .int .i64 t264, .int .i64 t265, .int .i64 t266]) ?_ 4 _ rfl; (with_reducible repeat (first | refine blk_drewN ?_ _ | refine blk_drew ?_ | refine blk_alloc ?_ _)); refine blk_put (cs := #[.string a1_0, .string a1_0, .string a1_1, .string t261, .int .i64 t262, .int .i64 t263, .int .i64 t264, .int .i64 t265, .int .i64 t266]) ?_ 3 _ rfl; (with_reducible repeat (first | refine blk_drewN ?_ _ | refine blk_drew ?_ | refine blk_alloc ?_ _)); refine blk_put (cs := #[.string a1_0, .string a1_0, .string t260, .string t261, .int .i64 t262, .int .i64 t263, .int .i64 t264, .int .i64 t265, .int .i64 t266]) ?_ 2 _ rfl; (with_reducible repeat (first | refine blk_drewN ?_ _ | refine blk_drew ?_ | refine blk_alloc ?_ _)); refine blk_put (cs := #[.string a1_0, .string t259, .string t260, .string t261, .int .i64 t262, .int .i64 t263, .int .i64 t264, .int .i64 t265, .int .i64 t266]) ?_ 1 _ rfl; (with_reducible repeat (first | refine blk_drewN ?_ _ | refine blk_drew ?_ | refine blk_alloc ?_ _)); refine blk_put (cs := #[.string t258, .string t259, .string t260, .string t261, .int .i64 t262, .int .i64 t263, .int .i64 t264, .int .i64 t265, .int .i64 t266]) ?_ 0 _ rfl; (with_reducible repeat (first | refine blk_drewN ?_ _ | refine blk_drew ?_ | refine blk_alloc ?_ _)); exact BK267.out⟩, ⟨by repeat (first | (with_reducible first | exact HB.out | apply below_alloc | apply pw_below_drewN | apply below_drew1 | refine below_set ?_ GE253.out | refine below_set ?_ GE254.out | refine below_set ?_ GE267.out) | exact HB.out)⟩⟩
                  · rw [if_neg c124] at H
                    have c124b0 : decide (0 ≤ a1_3) = false := decide_eq_false c124
                    clear c124
                    (first | rw [c124b0] | (simp only [i64_w, i32_w]; rw [c124b0]) | skip)
                    have H' := Aside0.mk H
                    clear H
                    go_wp2
                    go_meet
                    case rel => exact ⟨_, (t263), (t264), H', ⟨by have := HJ2.out; have := HJ95.out; first | omega | exact Nat.le_refl _⟩, ⟨by (with_reducible repeat (first | refine blk_drewN ?_ _ | refine blk_drew ?_ | refine blk_alloc ?_ _)); refine blk_far ?_ NB253_267.out _; (with_reducible repeat (first | refine blk_drewN ?_ _ | refine blk_drew ?_ | refine blk_alloc ?_ _)); refine blk_far ?_ NB253_267.out _; (with_reducible repeat (first | refine blk_drewN ?_ _ | refine blk_drew ?_ | refine blk_alloc ?_ _)); refine blk_far ?_ NB253_267.out _; (with_reducible repeat (first | refine blk_drewN ?_ _ | refine blk_drew ?_ | refine blk_alloc ?_ _)); refine blk_far ?_ NB253_267.out _; (with_reducible repeat (first | refine blk_drewN ?_ _ | refine blk_drew ?_ | refine blk_alloc ?_ _)); refine blk_far ?_ NB253_267.out _; (with_reducible repeat (first | refine blk_drewN ?_ _ | refine blk_drew ?_ | refine blk_alloc ?_ _)); exact BK253.out⟩, ⟨by (with_reducible repeat (first | refine blk_drewN ?_ _ | refine blk_drew ?_ | refine blk_alloc ?_ _)); refine blk_far ?_ NB254_267.out _; (with_reducible repeat (first | refine blk_drewN ?_ _ | refine blk_drew ?_ | refine blk_alloc ?_ _)); refine blk_far ?_ NB254_267.out _; (with_reducible repeat (first | refine blk_drewN ?_ _ | refine blk_drew ?_ | refine blk_alloc ?_ _)); refine blk_far ?_ NB254_267.out _; (with_reducible repeat (first | refine blk_drewN ?_ _ | refine blk_drew ?_ | refine blk_alloc ?_ _)); refine blk_far ?_ NB254_267.out _; (with_reducible repeat (first | refine blk_drewN ?_ _ | refine blk_drew ?_ | refine blk_alloc ?_ _)); refine blk_far ?_ NB254_267.out _; (with_reducible repeat (first | refine blk_drewN ?_ _ | refine blk_drew ?_ | refine blk_alloc ?_ _)); exact BK254.out⟩, ⟨by (with_reducible repeat (first | refine blk_drewN ?_ _ | refine blk_drew ?_ | refine blk_alloc ?_ _)); refine blk_put (cs := #[.string a1_0, .string a1_0, .string a1_1, .string a1_1, .int .i64 t262, .int .i64 t263, .int .i64 t264, .int .i64 t265, .int .i64 t266]) ?_ 4 _ rfl; (with_reducible repeat (first | refine blk_drewN ?_ _ | refine blk_drew ?_ | refine blk_alloc ?_ _)); refine blk_put (cs := #[.string a1_0, .string a1_0, .string a1_1, .string t261, .int .i64 t262, .int .i64 t263, .int .i64 t264, .int .i64 t265, .int .i64 t266]) ?_ 3 _ rfl; (with_reducible repeat (first | refine blk_drewN ?_ _ | refine blk_drew ?_ | refine blk_alloc ?_ _)); refine blk_put (cs := #[.string a1_0, .string a1_0, .string t260, .string t261, .int .i64 t262, .int .i64 t263, .int .i64 t264, .int .i64 t265, .int .i64 t266]) ?_ 2 _ rfl; (with_reducible repeat (first | refine blk_drewN ?_ _ | refine blk_drew ?_ | refine blk_alloc ?_ _)); refine blk_put (cs := #[.string a1_0, .string t259, .string t260, .string t261, .int .i64 t262, .int .i64 t263, .int .i64 t264, .int .i64 t265, .int .i64 t266]) ?_ 1 _ rfl; (with_reducible repeat (first | refine blk_drewN ?_ _ | refine blk_drew ?_ | refine blk_alloc ?_ _)); refine blk_put (cs := #[.string t258, .string t259, .string t260, .string t261, .int .i64 t262, .int .i64 t263, .int .i64 t264, .int .i64 t265, .int .i64 t266]) ?_ 0 _ rfl; (with_reducible repeat (first | refine blk_drewN ?_ _ | refine blk_drew ?_ | refine blk_alloc ?_ _)); exact BK267.out⟩, ⟨by repeat (first | (with_reducible first | exact HB.out | apply below_alloc | apply pw_below_drewN | apply below_drew1 | refine below_set ?_ GE253.out | refine below_set ?_ GE254.out | refine below_set ?_ GE267.out) | exact HB.out)⟩⟩
                case rest =>
                  clear HC113
                  try clear c1
                  try clear p2
                  try clear c10
                  try clear c11
                  try clear c12
                  try clear c14
                  try clear c16
                  try clear c109
                  try clear c112
                  try clear c116
                  try clear c117
                  try clear c119
                  try clear c124
                  try clear c124b0
                  try clear c125
                  try clear c126
                  try clear c128
                  try clear hcz118_0
                  try clear hcz118_1
                  try clear hcz118_2
                  try clear hcz118_3
                  try clear hcz118_4
                  try clear hcz118_5
                  try clear hcz118_6
                  try clear hcz118_7
                  try clear hcz118_8
                  try clear hcz120_0
                  try clear hcz120_1
                  try clear hcz120_2
                  try clear hcz120_3
                  try clear hcz120_4
                  try clear hcz122_0
                  try clear hcz122_1
                  try clear hcz122_2
                  try clear hcz122_3
                  try clear hcz122_4
                  try clear hcz123_0
                  try clear hcz123_1
                  try clear hcz123_2
                  try clear hcz123_3
                  try clear hcz123_4
                  try clear hcz123_5
                  try clear hcz123_6
                  try clear hcz123_7
                  try clear hcz123_8
                  try clear hcz127_0
                  try clear hcz127_1
                  try clear hcz127_2
                  try clear hcz127_3
                  try clear hcz127_4
                  try clear hcz129_0
                  try clear hcz129_1
                  try clear hcz129_2
                  try clear hcz129_3
                  try clear hcz129_4
                  try clear hcz129_5
                  try clear hcz129_6
                  try clear hcz129_7
                  try clear hcz129_8
                  try clear hcz39_2
                  try clear hcz39_3
                  try clear hcz39_4
                  try clear hcz41_0
                  try clear hcz41_1
                  try clear hcz41_2
                  try clear hcz41_3
                  try clear hcz41_4
                  try clear hcz41_5
                  try clear hcz41_6
                  try clear hcz41_7
                  try clear hcz41_8
                  try clear hcz42_0
                  try clear hcz42_1
                  try clear hcz42_2
                  try clear hcz42_3
                  try clear hcz42_4
                  try clear hcz44_0
                  try clear hcz44_1
                  try clear hcz44_2
                  try clear hcz44_3
                  try clear hcz44_4
                  try clear hcz48_0
                  try clear hcz48_1
                  try clear hcz48_2
                  try clear hcz48_3
                  try clear hcz48_4
                  try clear hcz48_5
                  try clear hcz48_6
                  try clear hcz48_7
                  try clear hcz48_8
                  try clear hcz49_0
                  try clear hcz49_1
                  try clear hcz49_2
                  try clear hcz49_3
                  try clear hcz49_4
                  try clear hcz51_0
                  try clear hcz51_1
                  try clear hcz51_2
                  try clear hcz51_3
                  try clear hcz51_4
                  try clear hcz54_0
                  try clear hcz54_1
                  try clear hcz54_2
                  try clear hcz54_3
                  try clear hcz54_4
                  try clear hcz54_5
                  try clear hcz54_6
                  try clear hcz54_7
                  try clear hcz54_8
                  try clear hcz55_0
                  try clear hcz55_1
                  try clear hcz55_2
                  try clear hcz55_3
                  try clear hcz55_4
                  try clear hcz57_0
                  try clear hcz57_1
                  try clear hcz57_2
                  try clear hcz57_3
                  try clear hcz57_4
                  try clear hcz60_0
                  try clear hcz60_1
                  try clear hcz60_2
                  try clear hcz60_3
                  try clear hcz60_4
                  try clear hcz60_5
                  try clear hcz60_6
                  try clear hcz60_7
                  try clear hcz60_8
                  try clear hcz61_0
                  try clear hcz61_1
                  try clear hcz61_2
                  try clear hcz61_3
                  try clear hcz61_4
                  try clear hcz63_0
                  try clear hcz63_1
                  try clear hcz63_2
                  try clear hcz63_3
                  try clear hcz63_4
                  try clear hcz66_0
                  try clear hcz66_1
                  try clear hcz66_2
                  try clear hcz66_3
                  try clear hcz66_4
                  try clear hcz66_5
                  try clear hcz66_6
                  try clear hcz66_7
                  try clear hcz66_8
                  try clear hcz67_0
                  try clear hcz67_1
                  try clear hcz67_2
                  try clear hcz67_3
                  try clear hcz67_4
                  try clear hcz69_0
                  try clear hcz69_1
                  try clear hcz69_2
                  try clear hcz69_3
                  try clear hcz69_4
                  try clear hcz72_0
                  try clear hcz72_1
                  try clear hcz72_2
                  try clear hcz72_3
                  try clear hcz72_4
                  try clear hcz72_5
                  try clear hcz72_6
                  try clear hcz72_7
                  try clear hcz72_8
                  try clear hcz73_0
                  try clear hcz73_1
                  try clear hcz73_2
                  try clear hcz73_3
                  try clear hcz73_4
                  try clear hcz75_0
                  try clear hcz75_1
                  try clear hcz75_2
                  try clear hcz75_3
                  try clear hcz75_4
                  try clear hcz77_0
                  try clear hcz77_1
                  try clear hcz77_2
                  try clear hcz77_3
                  try clear hcz77_4
                  try clear hcz77_5
                  try clear hcz77_6
                  try clear hcz77_7
                  try clear hcz77_8
                  try clear hcz78_0
                  try clear hcz78_1
                  try clear hcz78_2
                  try clear hcz78_3
                  try clear hcz78_4
                  try clear hcz80_0
                  try clear hcz80_1
                  try clear hcz80_2
                  try clear hcz80_3
                  try clear hcz80_4
                  try clear hcz82_0
                  try clear hcz82_1
                  try clear hcz82_2
                  try clear hcz82_3
                  try clear hcz82_4
                  try clear hcz82_5
                  try clear hcz82_6
                  try clear hcz82_7
                  try clear hcz82_8
                  try clear hcz83_0
                  try clear hcz83_1
                  try clear hcz83_2
                  try clear hcz83_3
                  try clear hcz83_4
                  try clear hcz85_0
                  try clear hcz85_1
                  try clear hcz85_2
                  try clear hcz85_3
                  try clear hcz85_4
                  try clear hcz87_0
                  try clear hcz87_1
                  try clear hcz87_2
                  try clear hcz87_3
                  try clear hcz87_4
                  try clear hcz87_5
                  try clear hcz87_6
                  try clear hcz87_7
                  try clear hcz87_8
                  try clear hcz88_0
                  try clear hcz88_1
                  try clear hcz88_2
                  try clear hcz88_3
                  try clear hcz88_4
                  try clear hcz90_0
                  try clear hcz90_1
                  try clear hcz90_2
                  try clear hcz90_3
                  try clear hcz90_4
                  try clear hcz92_0
                  try clear hcz92_1
                  try clear hcz92_2
                  try clear hcz92_3
                  try clear hcz92_4
                  try clear hcz92_5
                  try clear hcz92_6
                  try clear hcz92_7
                  try clear hcz92_8
                  try clear hcz93_0
                  try clear hcz93_1
                  try clear hcz93_2
                  try clear hcz93_3
                  try clear hcz93_4
                  try clear hfz100_0
                  try clear hfz100_1
                  try clear hfz100_2
                  try clear hfz100_3
                  try clear hfz100_4
                  try clear hfz100_5
                  try clear hfz100_6
                  try clear hfz100_7
                  try clear hfz100_8
                  try clear hfz104_0
                  try clear hfz104_1
                  try clear hfz104_2
                  try clear hfz104_3
                  try clear hfz104_4
                  try clear hfz104_5
                  try clear hfz104_6
                  try clear hfz104_7
                  try clear hfz104_8
                  try clear hfz106_0
                  try clear hfz106_1
                  try clear hfz106_2
                  try clear hfz106_3
                  try clear hfz106_4
                  try clear hfz106_5
                  try clear hfz106_6
                  try clear hfz106_7
                  try clear hfz106_8
                  try clear hfz107_0
                  try clear hfz107_1
                  try clear hfz107_2
                  try clear hfz107_3
                  try clear hfz107_4
                  try clear hfz118_0
                  try clear hfz118_1
                  try clear hfz118_2
                  try clear hfz118_3
                  try clear hfz118_4
                  try clear hfz118_5
                  try clear hfz118_6
                  try clear hfz118_7
                  try clear hfz118_8
                  try clear hfz120_0
                  try clear hfz120_1
                  try clear hfz120_2
                  try clear hfz120_3
                  try clear hfz120_4
                  try clear hfz122_0
                  try clear hfz122_1
                  try clear hfz122_2
                  try clear hfz122_3
                  try clear hfz122_4
                  try clear hfz123_0
                  try clear hfz123_1
                  try clear hfz123_2
                  try clear hfz123_3
                  try clear hfz123_4
                  try clear hfz123_5
                  try clear hfz123_6
                  try clear hfz123_7
                  try clear hfz123_8
                  try clear hfz127_0
                  try clear hfz127_1
                  try clear hfz127_2
                  try clear hfz127_3
                  try clear hfz127_4
                  try clear hfz129_0
                  try clear hfz129_1
                  try clear hfz129_2
                  try clear hfz129_3
                  try clear hfz129_4
                  try clear hfz129_5
                  try clear hfz129_6
                  try clear hfz129_7
                  try clear hfz129_8
                  try clear hfz12_2
                  try clear hfz12_3
                  try clear hfz12_4
                  try clear hfz12_5
                  try clear hfz12_6
                  try clear hfz12_7
                  try clear hfz12_8
                  try clear hfz13_0
                  try clear hfz13_1
                  try clear hfz13_2
                  try clear hfz13_3
                  try clear hfz13_4
                  try clear hfz15_0
                  try clear hfz15_1
                  try clear hfz15_2
                  try clear hfz15_3
                  try clear hfz15_4
                  try clear hfz18_0
                  try clear hfz18_1
                  try clear hfz18_2
                  try clear hfz18_3
                  try clear hfz18_4
                  try clear hfz18_5
                  try clear hfz18_6
                  try clear hfz18_7
                  try clear hfz18_8
                  try clear hfz19_0
                  try clear hfz19_1
                  try clear hfz19_2
                  try clear hfz19_3
                  try clear hfz19_4
                  try clear hfz21_0
                  try clear hfz21_1
                  try clear hfz21_2
                  try clear hfz21_3
                  try clear hfz21_4
                  try clear hfz24_0
                  try clear hfz24_1
                  try clear hfz24_2
                  try clear hfz24_3
                  try clear hfz24_4
                  try clear hfz24_5
                  try clear hfz24_6
                  try clear hfz24_7
                  try clear hfz24_8
                  try clear hfz25_0
                  try clear hfz25_1
                  try clear hfz25_2
                  try clear hfz25_3
                  try clear hfz25_4
                  try clear hfz27_0
                  try clear hfz27_1
                  try clear hfz27_2
                  try clear hfz27_3
                  try clear hfz27_4
                  try clear hfz30_0
                  try clear hfz30_1
                  try clear hfz30_2
                  try clear hfz30_3
                  try clear hfz30_4
                  try clear hfz30_5
                  try clear hfz30_6
                  try clear hfz30_7
                  try clear hfz30_8
                  try clear hfz31_0
                  try clear hfz31_1
                  try clear hfz31_2
                  try clear hfz31_3
                  try clear hfz31_4
                  try clear hfz33_0
                  try clear hfz33_1
                  try clear hfz33_2
                  try clear hfz33_3
                  try clear hfz33_4
                  try clear hfz36_0
                  try clear hfz36_1
                  try clear hfz36_2
                  try clear hfz36_3
                  try clear hfz36_4
                  try clear hfz36_5
                  try clear hfz36_6
                  try clear hfz36_7
                  try clear hfz36_8
                  try clear hfz37_0
                  try clear hfz37_1
                  try clear hfz37_2
                  try clear hfz37_3
                  try clear hfz37_4
                  try clear hfz39_0
                  try clear hfz39_1
                  try clear hfz39_2
                  try clear hfz39_3
                  try clear hfz39_4
                  try clear hfz41_0
                  try clear hfz41_1
                  try clear hfz41_2
                  try clear hfz41_3
                  try clear hfz41_4
                  try clear hfz41_5
                  try clear hfz41_6
                  try clear hfz41_7
                  try clear hfz41_8
                  try clear hfz42_0
                  try clear hfz42_1
                  try clear hfz42_2
                  try clear hfz42_3
                  try clear hfz42_4
                  try clear hfz44_0
                  try clear hfz44_1
                  try clear hfz44_2
                  try clear hfz44_3
                  try clear hfz44_4
                  try clear hfz48_0
                  try clear hfz48_1
                  try clear hfz48_2
                  try clear hfz48_3
                  try clear hfz48_4
                  try clear hfz48_5
                  try clear hfz48_6
                  try clear hfz48_7
                  try clear hfz48_8
                  try clear hfz49_0
                  try clear hfz49_1
                  try clear hfz49_2
                  try clear hfz49_3
                  try clear hfz49_4
                  try clear hfz51_0
                  try clear hfz51_1
                  try clear hfz51_2
                  try clear hfz51_3
                  try clear hfz51_4
                  try clear hfz54_0
                  try clear hfz54_1
                  try clear hfz54_2
                  try clear hfz54_3
                  try clear hfz54_4
                  try clear hfz54_5
                  try clear hfz54_6
                  try clear hfz54_7
                  try clear hfz54_8
                  try clear hfz55_0
                  try clear hfz55_1
                  try clear hfz55_2
                  try clear hfz55_3
                  try clear hfz55_4
                  try clear hfz57_0
                  try clear hfz57_1
                  try clear hfz57_2
                  try clear hfz57_3
                  try clear hfz57_4
                  try clear hfz60_0
                  try clear hfz60_1
                  try clear hfz60_2
                  try clear hfz60_3
                  try clear hfz60_4
                  try clear hfz60_5
                  try clear hfz60_6
                  try clear hfz60_7
                  try clear hfz60_8
                  try clear hfz61_0
                  try clear hfz61_1
                  try clear hfz61_2
                  try clear hfz61_3
                  try clear hfz61_4
                  try clear hfz63_0
                  try clear hfz63_1
                  try clear hfz63_2
                  try clear hfz63_3
                  try clear hfz63_4
                  try clear hfz66_0
                  try clear hfz66_1
                  try clear hfz66_2
                  try clear hfz66_3
                  try clear hfz66_4
                  try clear hfz66_5
                  try clear hfz66_6
                  try clear hfz66_7
                  try clear hfz66_8
                  try clear hfz67_0
                  try clear hfz67_1
                  try clear hfz67_2
                  try clear hfz67_3
                  try clear hfz67_4
                  try clear hfz69_0
                  try clear hfz69_1
                  try clear hfz69_2
                  try clear hfz69_3
                  try clear hfz69_4
                  try clear hfz72_0
                  try clear hfz72_1
                  try clear hfz72_2
                  try clear hfz72_3
                  try clear hfz72_4
                  try clear hfz72_5
                  try clear hfz72_6
                  try clear hfz72_7
                  try clear hfz72_8
                  try clear hfz73_0
                  try clear hfz73_1
                  try clear hfz73_2
                  try clear hfz73_3
                  try clear hfz73_4
                  try clear hfz75_0
                  try clear hfz75_1
                  try clear hfz75_2
                  try clear hfz75_3
                  try clear hfz75_4
                  try clear hfz77_0
                  try clear hfz77_1
                  try clear hfz77_2
                  try clear hfz77_3
                  try clear hfz77_4
                  try clear hfz77_5
                  try clear hfz77_6
                  try clear hfz77_7
                  try clear hfz77_8
                  try clear hfz78_0
                  try clear hfz78_1
                  try clear hfz78_2
                  try clear hfz78_3
                  try clear hfz78_4
                  try clear hfz80_0
                  try clear hfz80_1
                  try clear hfz80_2
                  try clear hfz80_3
                  try clear hfz80_4
                  try clear hfz82_0
                  try clear hfz82_1
                  try clear hfz82_2
                  try clear hfz82_3
                  try clear hfz82_4
                  try clear hfz82_5
                  try clear hfz82_6
                  try clear hfz82_7
                  try clear hfz82_8
                  try clear hfz83_0
                  try clear hfz83_1
                  try clear hfz83_2
                  try clear hfz83_3
                  try clear hfz83_4
                  try clear hfz85_0
                  try clear hfz85_1
                  try clear hfz85_2
                  try clear hfz85_3
                  try clear hfz85_4
                  try clear hfz87_0
                  try clear hfz87_1
                  try clear hfz87_2
                  try clear hfz87_3
                  try clear hfz87_4
                  try clear hfz87_5
                  try clear hfz87_6
                  try clear hfz87_7
                  try clear hfz87_8
                  try clear hfz88_0
                  try clear hfz88_1
                  try clear hfz88_2
                  try clear hfz88_3
                  try clear hfz88_4
                  try clear hfz90_0
                  try clear hfz90_1
                  try clear hfz90_2
                  try clear hfz90_3
                  try clear hfz90_4
                  try clear hfz92_0
                  try clear hfz92_1
                  try clear hfz92_2
                  try clear hfz92_3
                  try clear hfz92_4
                  try clear hfz92_5
                  try clear hfz92_6
                  try clear hfz92_7
                  try clear hfz92_8
                  try clear hfz93_0
                  try clear hfz93_1
                  try clear hfz93_2
                  try clear hfz93_3
                  try clear hfz93_4
                  obtain ⟨kq, x268005_112, x268006_112, HA, HJ112, BK253, BK254, BK267, HB⟩ := hcut
                  cases kq with
                  | zero => exact absurd HA.out (by simp [redoubtlaw15_PickNone.j2])
                  | succ kj112 =>
                    have H := HA.out
                    clear HA
                    simp only [redoubtlaw15_PickNone.j2] at H
                    by_cases c130 : a1_4 ≥ 0
                    · rw [if_pos c130] at H
                      have c130b0 : decide (0 ≤ a1_4) = true := decide_eq_true c130
                      clear c130
                      replace H := Option.bind_eq_some_iff.mp H
                      obtain ⟨t270, A1310, H⟩ := H
                      replace H : (if t270 = true then ((pick_Matches.f kj112 a1_0 a1_0 a1_1 a1_1 a1_2 x268005_112 x268006_112 a1_4 a1_4 a1_0 a1_1 a1_2 a1_3 a1_4).bind fun t271 => (if t271 = true then ((pick_Matches.f kj112 a1_0 a1_0 a1_1 a1_1 a1_2 x268005_112 x268006_112 a1_4 a1_4 a1_0 a1_1 (Int.tmod (wrap64 (a1_2 + 1)) 256) a1_3 a1_4).bind fun t272 => (some (!t272))) else (some false))) else (some false)) = some r := H
                      have A131 := Aside0.mk A1310
                      clear A1310
                      by_cases c132 : t270 = true
                      · subst c132
                        have H1 : ((pick_Matches.f kj112 a1_0 a1_0 a1_1 a1_1 a1_2 x268005_112 x268006_112 a1_4 a1_4 a1_0 a1_1 a1_2 a1_3 a1_4).bind fun t271 => (if t271 = true then ((pick_Matches.f kj112 a1_0 a1_0 a1_1 a1_1 a1_2 x268005_112 x268006_112 a1_4 a1_4 a1_0 a1_1 (Int.tmod (wrap64 (a1_2 + 1)) 256) a1_3 a1_4).bind fun t272 => (some (!t272))) else (some false))) = some r := by rw [if_pos rfl] at H; exact H
                        clear H
                        have H := H1
                        clear H1
                        replace H := Option.bind_eq_some_iff.mp H
                        obtain ⟨t271, A1330, H⟩ := H
                        replace H : (if t271 = true then ((pick_Matches.f kj112 a1_0 a1_0 a1_1 a1_1 a1_2 x268005_112 x268006_112 a1_4 a1_4 a1_0 a1_1 (Int.tmod (wrap64 (a1_2 + 1)) 256) a1_3 a1_4).bind fun t272 => (some (!t272))) else (some false)) = some r := H
                        have A133 := Aside0.mk A1330
                        clear A1330
                        by_cases c134 : t271 = true
                        · subst c134
                          have H1 : ((pick_Matches.f kj112 a1_0 a1_0 a1_1 a1_1 a1_2 x268005_112 x268006_112 a1_4 a1_4 a1_0 a1_1 (Int.tmod (wrap64 (a1_2 + 1)) 256) a1_3 a1_4).bind fun t272 => (some (!t272))) = some r := by rw [if_pos rfl] at H; exact H
                          clear H
                          have H := H1
                          clear H1
                          replace H := Option.bind_eq_some_iff.mp H
                          obtain ⟨t272, A1350, H⟩ := H
                          replace H : (some (!t272)) = some r := H
                          have A135 := Aside0.mk A1350
                          clear A1350
                          obtain rfl := Option.some.inj H
                          have hnb136 := NB254_253.out
                          have hnc136 := NB253_254.out
                          have hnb137 := NB254_267.out
                          have hnc137 := NB267_254.out
                          have hcz138_0 : wc.cell? ⟨gb254, 0, none⟩ = some (.string a1_0) := (blk_cell BK254.out 0).trans rfl
                          have hcz138_1 : wc.cell? ⟨gb254, 1, none⟩ = some (.string a1_1) := (blk_cell BK254.out 1).trans rfl
                          have hcz138_2 : wc.cell? ⟨gb254, 2, none⟩ = some (.int .i64 a1_2) := (blk_cell BK254.out 2).trans rfl
                          have hcz138_3 : wc.cell? ⟨gb254, 3, none⟩ = some (.int .i64 a1_3) := (blk_cell BK254.out 3).trans rfl
                          have hcz138_4 : wc.cell? ⟨gb254, 4, none⟩ = some (.int .i64 a1_4) := (blk_cell BK254.out 4).trans rfl
                          have hfz138_0 := blk_frozen BK254.out 0
                          have hfz138_1 := blk_frozen BK254.out 1
                          have hfz138_2 := blk_frozen BK254.out 2
                          have hfz138_3 := blk_frozen BK254.out 3
                          have hfz138_4 := blk_frozen BK254.out 4
                          have hnb139 := NB267_253.out
                          have hnc139 := NB253_267.out
                          have hcz140_0 : wc.cell? ⟨gb267, 0, none⟩ = some (.string a1_0) := (blk_cell BK267.out 0).trans rfl
                          have hcz140_1 : wc.cell? ⟨gb267, 1, none⟩ = some (.string a1_0) := (blk_cell BK267.out 1).trans rfl
                          have hcz140_2 : wc.cell? ⟨gb267, 2, none⟩ = some (.string a1_1) := (blk_cell BK267.out 2).trans rfl
                          have hcz140_3 : wc.cell? ⟨gb267, 3, none⟩ = some (.string a1_1) := (blk_cell BK267.out 3).trans rfl
                          have hcz140_4 : wc.cell? ⟨gb267, 4, none⟩ = some (.int .i64 a1_2) := (blk_cell BK267.out 4).trans rfl
                          have hcz140_5 : wc.cell? ⟨gb267, 5, none⟩ = some (.int .i64 x268005_112) := (blk_cell BK267.out 5).trans rfl
                          have hcz140_6 : wc.cell? ⟨gb267, 6, none⟩ = some (.int .i64 x268006_112) := (blk_cell BK267.out 6).trans rfl
                          have hcz140_7 : wc.cell? ⟨gb267, 7, none⟩ = some (.int .i64 t265) := (blk_cell BK267.out 7).trans rfl
                          have hcz140_8 : wc.cell? ⟨gb267, 8, none⟩ = some (.int .i64 t266) := (blk_cell BK267.out 8).trans rfl
                          have hfz140_0 := blk_frozen BK267.out 0
                          have hfz140_1 := blk_frozen BK267.out 1
                          have hfz140_2 := blk_frozen BK267.out 2
                          have hfz140_3 := blk_frozen BK267.out 3
                          have hfz140_4 := blk_frozen BK267.out 4
                          have hfz140_5 := blk_frozen BK267.out 5
                          have hfz140_6 := blk_frozen BK267.out 6
                          have hfz140_7 := blk_frozen BK267.out 7
                          have hfz140_8 := blk_frozen BK267.out 8
                          go_wp2_with (first | ((with_reducible refine gate_dst (N := 6) rfl ?_); (try (refine gate_guard (by rfl) ?_; dsimp only)); refine box_event ?hg (N := 6) ?hd (cs := #[.string (⟨#[]⟩ : ByteArray), .string (⟨#[]⟩ : ByteArray), .int .i64 0, .int .i64 0, .int .i64 0]) (t := 24) ?hr ?_; (case hd => rfl); (case hg => rfl); (case hr => first | (go_simp; done) | (go_simp; rfl)); intro gb269 hg w141 hbox hb; have n0_ := Aside0.mk (blk_below (g := gb253) (o := .cells #[.string a0_0, .string a0_1, .string a0_2, .string a0_3, .int .i64 a0_4, .int .i64 a0_5, .int .i64 a0_6, .int .i64 a0_7, .int .i64 a0_8] 37 (0, 0)) (by (with_reducible repeat (first | refine blk_drewN ?_ _ | refine blk_drew ?_ | refine blk_alloc ?_ _)); refine blk_far ?_ NB253_267.out _; (with_reducible repeat (first | refine blk_drewN ?_ _ | refine blk_drew ?_ | refine blk_alloc ?_ _)); refine blk_far ?_ NB253_267.out _; (with_reducible repeat (first | refine blk_drewN ?_ _ | refine blk_drew ?_ | refine blk_alloc ?_ _)); exact BK253.out) hb); have n1_ := Aside0.mk (blk_below (g := gb254) (o := .cells #[.string a1_0, .string a1_1, .int .i64 a1_2, .int .i64 a1_3, .int .i64 a1_4] 24 (0, 0)) (by (with_reducible repeat (first | refine blk_drewN ?_ _ | refine blk_drew ?_ | refine blk_alloc ?_ _)); refine blk_far ?_ NB254_267.out _; (with_reducible repeat (first | refine blk_drewN ?_ _ | refine blk_drew ?_ | refine blk_alloc ?_ _)); refine blk_far ?_ NB254_267.out _; (with_reducible repeat (first | refine blk_drewN ?_ _ | refine blk_drew ?_ | refine blk_alloc ?_ _)); exact BK254.out) hb); have n2_ := Aside0.mk (blk_below (g := gb267) (o := .cells #[.string a1_0, .string a1_0, .string a1_1, .string a1_1, .int .i64 a1_2, .int .i64 x268005_112, .int .i64 x268006_112, .int .i64 a1_4, .int .i64 a1_4] 37 (0, 0)) (by (with_reducible repeat (first | refine blk_drewN ?_ _ | refine blk_drew ?_ | refine blk_alloc ?_ _)); refine blk_put (cs := #[.string a1_0, .string a1_0, .string a1_1, .string a1_1, .int .i64 a1_2, .int .i64 x268005_112, .int .i64 x268006_112, .int .i64 a1_4, .int .i64 t266]) ?_ 8 _ rfl; (with_reducible repeat (first | refine blk_drewN ?_ _ | refine blk_drew ?_ | refine blk_alloc ?_ _)); refine blk_put (cs := #[.string a1_0, .string a1_0, .string a1_1, .string a1_1, .int .i64 a1_2, .int .i64 x268005_112, .int .i64 x268006_112, .int .i64 t265, .int .i64 t266]) ?_ 7 _ rfl; (with_reducible repeat (first | refine blk_drewN ?_ _ | refine blk_drew ?_ | refine blk_alloc ?_ _)); exact BK267.out) hb); have n3_ := Aside0.mk (below_step (by repeat (first | (with_reducible first | exact HB.out | apply below_alloc | apply pw_below_drewN | apply below_drew1 | refine below_set ?_ GE253.out | refine below_set ?_ GE254.out | refine below_set ?_ GE267.out) | exact HB.out)) hb); have n4_ := Aside0.mk (hbox); have n5_ := Aside0.mk ((by rw [hg]; exact (below_size (by repeat (first | (with_reducible first | exact HB.out | apply below_alloc | apply pw_below_drewN | apply below_drew1 | refine below_set ?_ GE253.out | refine below_set ?_ GE254.out | refine below_set ?_ GE267.out) | exact HB.out))) : w.heap.size ≤ gb269)); have n6_ := Aside0.mk ((by rw [hg]; exact (below_size (by repeat (first | (with_reducible first | exact HB.out | apply below_alloc | apply pw_below_drewN | apply below_drew1 | refine below_set ?_ GE253.out | refine below_set ?_ GE254.out | refine below_set ?_ GE267.out) | exact HB.out))) : w.heap.size ≤ gb269)); have n7_ := Aside0.mk ((by rw [hg]; exact Nat.ne_of_lt (blk_lt (g := gb253) (o := .cells #[.string a0_0, .string a0_1, .string a0_2, .string a0_3, .int .i64 a0_4, .int .i64 a0_5, .int .i64 a0_6, .int .i64 a0_7, .int .i64 a0_8] 37 (0, 0)) (by (with_reducible repeat (first | refine blk_drewN ?_ _ | refine blk_drew ?_ | refine blk_alloc ?_ _)); refine blk_far ?_ NB253_267.out _; (with_reducible repeat (first | refine blk_drewN ?_ _ | refine blk_drew ?_ | refine blk_alloc ?_ _)); refine blk_far ?_ NB253_267.out _; (with_reducible repeat (first | refine blk_drewN ?_ _ | refine blk_drew ?_ | refine blk_alloc ?_ _)); exact BK253.out)) : gb253 ≠ gb269)); have n8_ := Aside0.mk ((by rw [hg]; exact Nat.ne_of_gt (blk_lt (g := gb253) (o := .cells #[.string a0_0, .string a0_1, .string a0_2, .string a0_3, .int .i64 a0_4, .int .i64 a0_5, .int .i64 a0_6, .int .i64 a0_7, .int .i64 a0_8] 37 (0, 0)) (by (with_reducible repeat (first | refine blk_drewN ?_ _ | refine blk_drew ?_ | refine blk_alloc ?_ _)); refine blk_far ?_ NB253_267.out _; (with_reducible repeat (first | refine blk_drewN ?_ _ | refine blk_drew ?_ | refine blk_alloc ?_ _)); refine blk_far ?_ NB253_267.out _; (with_reducible repeat (first | refine blk_drewN ?_ _ | refine blk_drew ?_ | refine blk_alloc ?_ _)); exact BK253.out)) : gb269 ≠ gb253)); have n9_ := Aside0.mk ((by rw [hg]; exact Nat.ne_of_lt (blk_lt (g := gb254) (o := .cells #[.string a1_0, .string a1_1, .int .i64 a1_2, .int .i64 a1_3, .int .i64 a1_4] 24 (0, 0)) (by (with_reducible repeat (first | refine blk_drewN ?_ _ | refine blk_drew ?_ | refine blk_alloc ?_ _)); refine blk_far ?_ NB254_267.out _; (with_reducible repeat (first | refine blk_drewN ?_ _ | refine blk_drew ?_ | refine blk_alloc ?_ _)); refine blk_far ?_ NB254_267.out _; (with_reducible repeat (first | refine blk_drewN ?_ _ | refine blk_drew ?_ | refine blk_alloc ?_ _)); exact BK254.out)) : gb254 ≠ gb269)); have n10_ := Aside0.mk ((by rw [hg]; exact Nat.ne_of_gt (blk_lt (g := gb254) (o := .cells #[.string a1_0, .string a1_1, .int .i64 a1_2, .int .i64 a1_3, .int .i64 a1_4] 24 (0, 0)) (by (with_reducible repeat (first | refine blk_drewN ?_ _ | refine blk_drew ?_ | refine blk_alloc ?_ _)); refine blk_far ?_ NB254_267.out _; (with_reducible repeat (first | refine blk_drewN ?_ _ | refine blk_drew ?_ | refine blk_alloc ?_ _)); refine blk_far ?_ NB254_267.out _; (with_reducible repeat (first | refine blk_drewN ?_ _ | refine blk_drew ?_ | refine blk_alloc ?_ _)); exact BK254.out)) : gb269 ≠ gb254)); have n11_ := Aside0.mk ((by rw [hg]; exact Nat.ne_of_lt (blk_lt (g := gb267) (o := .cells #[.string a1_0, .string a1_0, .string a1_1, .string a1_1, .int .i64 a1_2, .int .i64 x268005_112, .int .i64 x268006_112, .int .i64 a1_4, .int .i64 a1_4] 37 (0, 0)) (by (with_reducible repeat (first | refine blk_drewN ?_ _ | refine blk_drew ?_ | refine blk_alloc ?_ _)); refine blk_put (cs := #[.string a1_0, .string a1_0, .string a1_1, .string a1_1, .int .i64 a1_2, .int .i64 x268005_112, .int .i64 x268006_112, .int .i64 a1_4, .int .i64 t266]) ?_ 8 _ rfl; (with_reducible repeat (first | refine blk_drewN ?_ _ | refine blk_drew ?_ | refine blk_alloc ?_ _)); refine blk_put (cs := #[.string a1_0, .string a1_0, .string a1_1, .string a1_1, .int .i64 a1_2, .int .i64 x268005_112, .int .i64 x268006_112, .int .i64 t265, .int .i64 t266]) ?_ 7 _ rfl; (with_reducible repeat (first | refine blk_drewN ?_ _ | refine blk_drew ?_ | refine blk_alloc ?_ _)); exact BK267.out)) : gb267 ≠ gb269)); have n12_ := Aside0.mk ((by rw [hg]; exact Nat.ne_of_gt (blk_lt (g := gb267) (o := .cells #[.string a1_0, .string a1_0, .string a1_1, .string a1_1, .int .i64 a1_2, .int .i64 x268005_112, .int .i64 x268006_112, .int .i64 a1_4, .int .i64 a1_4] 37 (0, 0)) (by (with_reducible repeat (first | refine blk_drewN ?_ _ | refine blk_drew ?_ | refine blk_alloc ?_ _)); refine blk_put (cs := #[.string a1_0, .string a1_0, .string a1_1, .string a1_1, .int .i64 a1_2, .int .i64 x268005_112, .int .i64 x268006_112, .int .i64 a1_4, .int .i64 t266]) ?_ 8 _ rfl; (with_reducible repeat (first | refine blk_drewN ?_ _ | refine blk_drew ?_ | refine blk_alloc ?_ _)); refine blk_put (cs := #[.string a1_0, .string a1_0, .string a1_1, .string a1_1, .int .i64 a1_2, .int .i64 x268005_112, .int .i64 x268006_112, .int .i64 t265, .int .i64 t266]) ?_ 7 _ rfl; (with_reducible repeat (first | refine blk_drewN ?_ _ | refine blk_drew ?_ | refine blk_alloc ?_ _)); exact BK267.out)) : gb269 ≠ gb267)); clear BK253; clear BK254; clear BK267; clear HB; have BK253 := n0_; have BK254 := n1_; have BK267 := n2_; have HB := n3_; have BK269 := n4_; have GW269 := n5_; have GE269 := n6_; have NB253_269 := n7_; have NB269_253 := n8_; have NB254_269 := n9_; have NB269_254 := n10_; have NB267_269 := n11_; have NB269_267 := n12_; clear n0_ n1_ n2_ n3_ n4_ n5_ n6_ n7_ n8_ n9_ n10_ n11_ n12_; clear hb hbox hg; have hnb142 := NB269_253.out; have hnc142 := NB253_269.out; have hnb143 := NB269_254.out; have hnc143 := NB254_269.out; have hnb144 := NB269_267.out; have hnc144 := NB267_269.out; have hcz145_0 : w141.cell? ⟨gb269, 0, none⟩ = some (.string (⟨#[]⟩ : ByteArray)) := (blk_cell BK269.out 0).trans rfl; have hcz145_1 : w141.cell? ⟨gb269, 1, none⟩ = some (.string (⟨#[]⟩ : ByteArray)) := (blk_cell BK269.out 1).trans rfl; have hcz145_2 : w141.cell? ⟨gb269, 2, none⟩ = some (.int .i64 0) := (blk_cell BK269.out 2).trans rfl; have hcz145_3 : w141.cell? ⟨gb269, 3, none⟩ = some (.int .i64 0) := (blk_cell BK269.out 3).trans rfl; have hcz145_4 : w141.cell? ⟨gb269, 4, none⟩ = some (.int .i64 0) := (blk_cell BK269.out 4).trans rfl; have hfz145_0 := blk_frozen BK269.out 0; have hfz145_1 := blk_frozen BK269.out 1; have hfz145_2 := blk_frozen BK269.out 2; have hfz145_3 := blk_frozen BK269.out 3; have hfz145_4 := blk_frozen BK269.out 4; have hcz146_0 : w141.cell? ⟨gb254, 0, none⟩ = some (.string a1_0) := (blk_cell BK254.out 0).trans rfl; have hcz146_1 : w141.cell? ⟨gb254, 1, none⟩ = some (.string a1_1) := (blk_cell BK254.out 1).trans rfl; have hcz146_2 : w141.cell? ⟨gb254, 2, none⟩ = some (.int .i64 a1_2) := (blk_cell BK254.out 2).trans rfl; have hcz146_3 : w141.cell? ⟨gb254, 3, none⟩ = some (.int .i64 a1_3) := (blk_cell BK254.out 3).trans rfl; have hcz146_4 : w141.cell? ⟨gb254, 4, none⟩ = some (.int .i64 a1_4) := (blk_cell BK254.out 4).trans rfl; have hfz146_0 := blk_frozen BK254.out 0; have hfz146_1 := blk_frozen BK254.out 1; have hfz146_2 := blk_frozen BK254.out 2; have hfz146_3 := blk_frozen BK254.out 3; have hfz146_4 := blk_frozen BK254.out 4) | ((with_reducible refine gate_callee (f := 10) rfl ?_); refine goesL_ (some 114) rfl rfl Try.func10 (by kernel_rfl) rfl #[] rfl (by (try simp only [List.map_toArray, List.map_cons, List.map_nil]); first | done | rfl | (simp only [List.length_drop, List.length_take]; rfl)) ?_; (with_reducible refine (redoubtlaw15_awake.calls kj112  true _ A131.out (by first | rfl | exact HRT.out)).mono ?_); rintro e w147 ⟨rfl, hb⟩; refine ⟨_, rfl, ?_⟩; have n0_ := Aside0.mk (blk_below (g := gb253) (o := .cells #[.string a0_0, .string a0_1, .string a0_2, .string a0_3, .int .i64 a0_4, .int .i64 a0_5, .int .i64 a0_6, .int .i64 a0_7, .int .i64 a0_8] 37 (0, 0)) (by (with_reducible repeat (first | refine blk_drewN ?_ _ | refine blk_drew ?_ | refine blk_alloc ?_ _)); refine blk_far ?_ NB253_269.out _; (with_reducible repeat (first | refine blk_drewN ?_ _ | refine blk_drew ?_ | refine blk_alloc ?_ _)); refine blk_far ?_ NB253_269.out _; (with_reducible repeat (first | refine blk_drewN ?_ _ | refine blk_drew ?_ | refine blk_alloc ?_ _)); refine blk_far ?_ NB253_269.out _; (with_reducible repeat (first | refine blk_drewN ?_ _ | refine blk_drew ?_ | refine blk_alloc ?_ _)); refine blk_far ?_ NB253_269.out _; (with_reducible repeat (first | refine blk_drewN ?_ _ | refine blk_drew ?_ | refine blk_alloc ?_ _)); refine blk_far ?_ NB253_269.out _; (with_reducible repeat (first | refine blk_drewN ?_ _ | refine blk_drew ?_ | refine blk_alloc ?_ _)); refine blk_far ?_ NB253_269.out _; (with_reducible repeat (first | refine blk_drewN ?_ _ | refine blk_drew ?_ | refine blk_alloc ?_ _)); exact BK253.out) hb); have n1_ := Aside0.mk (blk_below (g := gb254) (o := .cells #[.string a1_0, .string a1_1, .int .i64 a1_2, .int .i64 a1_3, .int .i64 a1_4] 24 (0, 0)) (by (with_reducible repeat (first | refine blk_drewN ?_ _ | refine blk_drew ?_ | refine blk_alloc ?_ _)); refine blk_far ?_ NB254_269.out _; (with_reducible repeat (first | refine blk_drewN ?_ _ | refine blk_drew ?_ | refine blk_alloc ?_ _)); refine blk_far ?_ NB254_269.out _; (with_reducible repeat (first | refine blk_drewN ?_ _ | refine blk_drew ?_ | refine blk_alloc ?_ _)); refine blk_far ?_ NB254_269.out _; (with_reducible repeat (first | refine blk_drewN ?_ _ | refine blk_drew ?_ | refine blk_alloc ?_ _)); refine blk_far ?_ NB254_269.out _; (with_reducible repeat (first | refine blk_drewN ?_ _ | refine blk_drew ?_ | refine blk_alloc ?_ _)); refine blk_far ?_ NB254_269.out _; (with_reducible repeat (first | refine blk_drewN ?_ _ | refine blk_drew ?_ | refine blk_alloc ?_ _)); refine blk_far ?_ NB254_269.out _; (with_reducible repeat (first | refine blk_drewN ?_ _ | refine blk_drew ?_ | refine blk_alloc ?_ _)); exact BK254.out) hb); have n2_ := Aside0.mk (blk_below (g := gb267) (o := .cells #[.string a1_0, .string a1_0, .string a1_1, .string a1_1, .int .i64 a1_2, .int .i64 x268005_112, .int .i64 x268006_112, .int .i64 a1_4, .int .i64 a1_4] 37 (0, 0)) (by (with_reducible repeat (first | refine blk_drewN ?_ _ | refine blk_drew ?_ | refine blk_alloc ?_ _)); refine blk_far ?_ NB267_269.out _; (with_reducible repeat (first | refine blk_drewN ?_ _ | refine blk_drew ?_ | refine blk_alloc ?_ _)); refine blk_far ?_ NB267_269.out _; (with_reducible repeat (first | refine blk_drewN ?_ _ | refine blk_drew ?_ | refine blk_alloc ?_ _)); refine blk_far ?_ NB267_269.out _; (with_reducible repeat (first | refine blk_drewN ?_ _ | refine blk_drew ?_ | refine blk_alloc ?_ _)); refine blk_far ?_ NB267_269.out _; (with_reducible repeat (first | refine blk_drewN ?_ _ | refine blk_drew ?_ | refine blk_alloc ?_ _)); refine blk_far ?_ NB267_269.out _; (with_reducible repeat (first | refine blk_drewN ?_ _ | refine blk_drew ?_ | refine blk_alloc ?_ _)); refine blk_far ?_ NB267_269.out _; (with_reducible repeat (first | refine blk_drewN ?_ _ | refine blk_drew ?_ | refine blk_alloc ?_ _)); exact BK267.out) hb); have n3_ := Aside0.mk (blk_below (g := gb269) (o := .cells #[.string a1_0, .string a1_1, .int .i64 (Int.tmod (wrap64 (a1_2 + 1)) 256), .int .i64 a1_3, .int .i64 a1_4] 24 (0, 0)) (by (with_reducible repeat (first | refine blk_drewN ?_ _ | refine blk_drew ?_ | refine blk_alloc ?_ _)); refine blk_put (cs := #[.string a1_0, .string a1_1, .int .i64 a1_2, .int .i64 a1_3, .int .i64 a1_4]) ?_ 2 _ rfl; (with_reducible repeat (first | refine blk_drewN ?_ _ | refine blk_drew ?_ | refine blk_alloc ?_ _)); refine blk_put (cs := #[.string a1_0, .string a1_1, .int .i64 a1_2, .int .i64 a1_3, .int .i64 0]) ?_ 4 _ rfl; (with_reducible repeat (first | refine blk_drewN ?_ _ | refine blk_drew ?_ | refine blk_alloc ?_ _)); refine blk_put (cs := #[.string a1_0, .string a1_1, .int .i64 a1_2, .int .i64 0, .int .i64 0]) ?_ 3 _ rfl; (with_reducible repeat (first | refine blk_drewN ?_ _ | refine blk_drew ?_ | refine blk_alloc ?_ _)); refine blk_put (cs := #[.string a1_0, .string a1_1, .int .i64 0, .int .i64 0, .int .i64 0]) ?_ 2 _ rfl; (with_reducible repeat (first | refine blk_drewN ?_ _ | refine blk_drew ?_ | refine blk_alloc ?_ _)); refine blk_put (cs := #[.string a1_0, .string (⟨#[]⟩ : ByteArray), .int .i64 0, .int .i64 0, .int .i64 0]) ?_ 1 _ rfl; (with_reducible repeat (first | refine blk_drewN ?_ _ | refine blk_drew ?_ | refine blk_alloc ?_ _)); refine blk_put (cs := #[.string (⟨#[]⟩ : ByteArray), .string (⟨#[]⟩ : ByteArray), .int .i64 0, .int .i64 0, .int .i64 0]) ?_ 0 _ rfl; (with_reducible repeat (first | refine blk_drewN ?_ _ | refine blk_drew ?_ | refine blk_alloc ?_ _)); exact BK269.out) hb); have n4_ := Aside0.mk (below_step (by repeat (first | (with_reducible first | exact HB.out | apply below_alloc | apply pw_below_drewN | apply below_drew1 | refine below_set ?_ GE253.out | refine below_set ?_ GE254.out | refine below_set ?_ GE267.out | refine below_set ?_ GE269.out) | exact HB.out)) hb); clear BK253; clear BK254; clear BK267; clear BK269; clear HB; have BK253 := n0_; have BK254 := n1_; have BK267 := n2_; have BK269 := n3_; have HB := n4_; clear n0_ n1_ n2_ n3_ n4_; (try clear hb); (try clear hb2); (try clear hk); (try clear hi); have hcz148_0 : w147.cell? ⟨gb267, 0, none⟩ = some (.string a1_0) := (blk_cell BK267.out 0).trans rfl; have hcz148_1 : w147.cell? ⟨gb267, 1, none⟩ = some (.string a1_0) := (blk_cell BK267.out 1).trans rfl; have hcz148_2 : w147.cell? ⟨gb267, 2, none⟩ = some (.string a1_1) := (blk_cell BK267.out 2).trans rfl; have hcz148_3 : w147.cell? ⟨gb267, 3, none⟩ = some (.string a1_1) := (blk_cell BK267.out 3).trans rfl; have hcz148_4 : w147.cell? ⟨gb267, 4, none⟩ = some (.int .i64 a1_2) := (blk_cell BK267.out 4).trans rfl; have hcz148_5 : w147.cell? ⟨gb267, 5, none⟩ = some (.int .i64 x268005_112) := (blk_cell BK267.out 5).trans rfl; have hcz148_6 : w147.cell? ⟨gb267, 6, none⟩ = some (.int .i64 x268006_112) := (blk_cell BK267.out 6).trans rfl; have hcz148_7 : w147.cell? ⟨gb267, 7, none⟩ = some (.int .i64 a1_4) := (blk_cell BK267.out 7).trans rfl; have hcz148_8 : w147.cell? ⟨gb267, 8, none⟩ = some (.int .i64 a1_4) := (blk_cell BK267.out 8).trans rfl; have hfz148_0 := blk_frozen BK267.out 0; have hfz148_1 := blk_frozen BK267.out 1; have hfz148_2 := blk_frozen BK267.out 2; have hfz148_3 := blk_frozen BK267.out 3; have hfz148_4 := blk_frozen BK267.out 4; have hfz148_5 := blk_frozen BK267.out 5; have hfz148_6 := blk_frozen BK267.out 6; have hfz148_7 := blk_frozen BK267.out 7; have hfz148_8 := blk_frozen BK267.out 8; have hcz149_0 : w147.cell? ⟨gb254, 0, none⟩ = some (.string a1_0) := (blk_cell BK254.out 0).trans rfl; have hcz149_1 : w147.cell? ⟨gb254, 1, none⟩ = some (.string a1_1) := (blk_cell BK254.out 1).trans rfl; have hcz149_2 : w147.cell? ⟨gb254, 2, none⟩ = some (.int .i64 a1_2) := (blk_cell BK254.out 2).trans rfl; have hcz149_3 : w147.cell? ⟨gb254, 3, none⟩ = some (.int .i64 a1_3) := (blk_cell BK254.out 3).trans rfl; have hcz149_4 : w147.cell? ⟨gb254, 4, none⟩ = some (.int .i64 a1_4) := (blk_cell BK254.out 4).trans rfl; have hfz149_0 := blk_frozen BK254.out 0; have hfz149_1 := blk_frozen BK254.out 1; have hfz149_2 := blk_frozen BK254.out 2; have hfz149_3 := blk_frozen BK254.out 3; have hfz149_4 := blk_frozen BK254.out 4) | (go_at_call 14; (with_reducible refine (pick_Matches.calls kj112 a1_0 a1_0 a1_1 a1_1 a1_2 x268005_112 x268006_112 a1_4 a1_4 a1_0 a1_1 a1_2 a1_3 a1_4 true _ A133.out).mono ?_); rintro e w150 ⟨rfl, hb⟩; have n0_ := Aside0.mk (blk_below (g := gb253) (o := .cells #[.string a0_0, .string a0_1, .string a0_2, .string a0_3, .int .i64 a0_4, .int .i64 a0_5, .int .i64 a0_6, .int .i64 a0_7, .int .i64 a0_8] 37 (0, 0)) (by (with_reducible repeat (first | refine blk_drewN ?_ _ | refine blk_drew ?_ | refine blk_alloc ?_ _)); exact BK253.out) hb); have n1_ := Aside0.mk (blk_below (g := gb254) (o := .cells #[.string a1_0, .string a1_1, .int .i64 a1_2, .int .i64 a1_3, .int .i64 a1_4] 24 (0, 0)) (by (with_reducible repeat (first | refine blk_drewN ?_ _ | refine blk_drew ?_ | refine blk_alloc ?_ _)); exact BK254.out) hb); have n2_ := Aside0.mk (blk_below (g := gb267) (o := .cells #[.string a1_0, .string a1_0, .string a1_1, .string a1_1, .int .i64 a1_2, .int .i64 x268005_112, .int .i64 x268006_112, .int .i64 a1_4, .int .i64 a1_4] 37 (0, 0)) (by (with_reducible repeat (first | refine blk_drewN ?_ _ | refine blk_drew ?_ | refine blk_alloc ?_ _)); exact BK267.out) hb); have n3_ := Aside0.mk (blk_below (g := gb269) (o := .cells #[.string a1_0, .string a1_1, .int .i64 (Int.tmod (wrap64 (a1_2 + 1)) 256), .int .i64 a1_3, .int .i64 a1_4] 24 (0, 0)) (by (with_reducible repeat (first | refine blk_drewN ?_ _ | refine blk_drew ?_ | refine blk_alloc ?_ _)); exact BK269.out) hb); have n4_ := Aside0.mk (below_step (by repeat (first | (with_reducible first | exact HB.out | apply below_alloc | apply pw_below_drewN | apply below_drew1 | refine below_set ?_ GE253.out | refine below_set ?_ GE254.out | refine below_set ?_ GE267.out | refine below_set ?_ GE269.out) | exact HB.out)) hb); clear BK253; clear BK254; clear BK267; clear BK269; clear HB; have BK253 := n0_; have BK254 := n1_; have BK267 := n2_; have BK269 := n3_; have HB := n4_; clear n0_ n1_ n2_ n3_ n4_; (try clear hb); (try clear hb2); (try clear hk); (try clear hi); have hcz151_0 : w150.cell? ⟨gb267, 0, none⟩ = some (.string a1_0) := (blk_cell BK267.out 0).trans rfl; have hcz151_1 : w150.cell? ⟨gb267, 1, none⟩ = some (.string a1_0) := (blk_cell BK267.out 1).trans rfl; have hcz151_2 : w150.cell? ⟨gb267, 2, none⟩ = some (.string a1_1) := (blk_cell BK267.out 2).trans rfl; have hcz151_3 : w150.cell? ⟨gb267, 3, none⟩ = some (.string a1_1) := (blk_cell BK267.out 3).trans rfl; have hcz151_4 : w150.cell? ⟨gb267, 4, none⟩ = some (.int .i64 a1_2) := (blk_cell BK267.out 4).trans rfl; have hcz151_5 : w150.cell? ⟨gb267, 5, none⟩ = some (.int .i64 x268005_112) := (blk_cell BK267.out 5).trans rfl; have hcz151_6 : w150.cell? ⟨gb267, 6, none⟩ = some (.int .i64 x268006_112) := (blk_cell BK267.out 6).trans rfl; have hcz151_7 : w150.cell? ⟨gb267, 7, none⟩ = some (.int .i64 a1_4) := (blk_cell BK267.out 7).trans rfl; have hcz151_8 : w150.cell? ⟨gb267, 8, none⟩ = some (.int .i64 a1_4) := (blk_cell BK267.out 8).trans rfl; have hfz151_0 := blk_frozen BK267.out 0; have hfz151_1 := blk_frozen BK267.out 1; have hfz151_2 := blk_frozen BK267.out 2; have hfz151_3 := blk_frozen BK267.out 3; have hfz151_4 := blk_frozen BK267.out 4; have hfz151_5 := blk_frozen BK267.out 5; have hfz151_6 := blk_frozen BK267.out 6; have hfz151_7 := blk_frozen BK267.out 7; have hfz151_8 := blk_frozen BK267.out 8; have hcz152_0 : w150.cell? ⟨gb269, 0, none⟩ = some (.string a1_0) := (blk_cell BK269.out 0).trans rfl; have hcz152_1 : w150.cell? ⟨gb269, 1, none⟩ = some (.string a1_1) := (blk_cell BK269.out 1).trans rfl; have hcz152_2 : w150.cell? ⟨gb269, 2, none⟩ = some (.int .i64 (Int.tmod (wrap64 (a1_2 + 1)) 256)) := (blk_cell BK269.out 2).trans rfl; have hcz152_3 : w150.cell? ⟨gb269, 3, none⟩ = some (.int .i64 a1_3) := (blk_cell BK269.out 3).trans rfl; have hcz152_4 : w150.cell? ⟨gb269, 4, none⟩ = some (.int .i64 a1_4) := (blk_cell BK269.out 4).trans rfl; have hfz152_0 := blk_frozen BK269.out 0; have hfz152_1 := blk_frozen BK269.out 1; have hfz152_2 := blk_frozen BK269.out 2; have hfz152_3 := blk_frozen BK269.out 3; have hfz152_4 := blk_frozen BK269.out 4) | (go_at_call 14; (with_reducible refine (pick_Matches.calls kj112 a1_0 a1_0 a1_1 a1_1 a1_2 x268005_112 x268006_112 a1_4 a1_4 a1_0 a1_1 (Int.tmod (wrap64 (a1_2 + 1)) 256) a1_3 a1_4 t272 _ A135.out).mono ?_); rintro e w153 ⟨rfl, hb⟩; have n0_ := Aside0.mk (blk_below (g := gb253) (o := .cells #[.string a0_0, .string a0_1, .string a0_2, .string a0_3, .int .i64 a0_4, .int .i64 a0_5, .int .i64 a0_6, .int .i64 a0_7, .int .i64 a0_8] 37 (0, 0)) (by (with_reducible repeat (first | refine blk_drewN ?_ _ | refine blk_drew ?_ | refine blk_alloc ?_ _)); exact BK253.out) hb); have n1_ := Aside0.mk (blk_below (g := gb254) (o := .cells #[.string a1_0, .string a1_1, .int .i64 a1_2, .int .i64 a1_3, .int .i64 a1_4] 24 (0, 0)) (by (with_reducible repeat (first | refine blk_drewN ?_ _ | refine blk_drew ?_ | refine blk_alloc ?_ _)); exact BK254.out) hb); have n2_ := Aside0.mk (blk_below (g := gb267) (o := .cells #[.string a1_0, .string a1_0, .string a1_1, .string a1_1, .int .i64 a1_2, .int .i64 x268005_112, .int .i64 x268006_112, .int .i64 a1_4, .int .i64 a1_4] 37 (0, 0)) (by (with_reducible repeat (first | refine blk_drewN ?_ _ | refine blk_drew ?_ | refine blk_alloc ?_ _)); exact BK267.out) hb); have n3_ := Aside0.mk (blk_below (g := gb269) (o := .cells #[.string a1_0, .string a1_1, .int .i64 (Int.tmod (wrap64 (a1_2 + 1)) 256), .int .i64 a1_3, .int .i64 a1_4] 24 (0, 0)) (by (with_reducible repeat (first | refine blk_drewN ?_ _ | refine blk_drew ?_ | refine blk_alloc ?_ _)); exact BK269.out) hb); have n4_ := Aside0.mk (below_step (by repeat (first | (with_reducible first | exact HB.out | apply below_alloc | apply pw_below_drewN | apply below_drew1 | refine below_set ?_ GE253.out | refine below_set ?_ GE254.out | refine below_set ?_ GE267.out | refine below_set ?_ GE269.out) | exact HB.out)) hb); clear BK253; clear BK254; clear BK267; clear BK269; clear HB; have BK253 := n0_; have BK254 := n1_; have BK267 := n2_; have BK269 := n3_; have HB := n4_; clear n0_ n1_ n2_ n3_ n4_; (try clear hb); (try clear hb2); (try clear hk); (try clear hi)))
                          go_ret
                          exact ⟨by first | rfl | (simp [errW_none, errW_some] <;> rfl) | (simp [*, errW_none, errW_some] <;> rfl), by repeat (first | (with_reducible first | exact HB.out | apply below_alloc | apply pw_below_drewN | apply below_drew1 | refine below_set ?_ GE253.out | refine below_set ?_ GE254.out | refine below_set ?_ GE267.out | refine below_set ?_ GE269.out) | exact HB.out)⟩
                        · replace c134 := Bool.eq_false_iff.mpr c134
                          subst c134
                          have H1 : (some false) = some r := by rw [if_neg (show ¬ (false = true) by decide)] at H; exact H
                          clear H
                          have H := H1
                          clear H1
                          exact absurd (HRT.out.symm.trans (Option.some.inj H).symm) (by decide)
                      · replace c132 := Bool.eq_false_iff.mpr c132
                        subst c132
                        have H1 : (some false) = some r := by rw [if_neg (show ¬ (false = true) by decide)] at H; exact H
                        clear H
                        have H := H1
                        clear H1
                        exact absurd (HRT.out.symm.trans (Option.some.inj H).symm) (by decide)
                    · rw [if_neg c130] at H
                      have c130b0 : decide (0 ≤ a1_4) = false := decide_eq_false c130
                      clear c130
                      replace H := Option.bind_eq_some_iff.mp H
                      obtain ⟨t274, A1810, H⟩ := H
                      replace H : (if t274 = true then ((pick_Matches.f kj112 a1_0 a1_0 a1_1 a1_1 a1_2 x268005_112 x268006_112 t265 t266 a1_0 a1_1 a1_2 a1_3 a1_4).bind fun t275 => (if t275 = true then ((pick_Matches.f kj112 a1_0 a1_0 a1_1 a1_1 a1_2 x268005_112 x268006_112 t265 t266 a1_0 a1_1 (Int.tmod (wrap64 (a1_2 + 1)) 256) a1_3 a1_4).bind fun t276 => (some (!t276))) else (some false))) else (some false)) = some r := H
                      have A181 := Aside0.mk A1810
                      clear A1810
                      by_cases c182 : t274 = true
                      · subst c182
                        have H1 : ((pick_Matches.f kj112 a1_0 a1_0 a1_1 a1_1 a1_2 x268005_112 x268006_112 t265 t266 a1_0 a1_1 a1_2 a1_3 a1_4).bind fun t275 => (if t275 = true then ((pick_Matches.f kj112 a1_0 a1_0 a1_1 a1_1 a1_2 x268005_112 x268006_112 t265 t266 a1_0 a1_1 (Int.tmod (wrap64 (a1_2 + 1)) 256) a1_3 a1_4).bind fun t276 => (some (!t276))) else (some false))) = some r := by rw [if_pos rfl] at H; exact H
                        clear H
                        have H := H1
                        clear H1
                        replace H := Option.bind_eq_some_iff.mp H
                        obtain ⟨t275, A1830, H⟩ := H
                        replace H : (if t275 = true then ((pick_Matches.f kj112 a1_0 a1_0 a1_1 a1_1 a1_2 x268005_112 x268006_112 t265 t266 a1_0 a1_1 (Int.tmod (wrap64 (a1_2 + 1)) 256) a1_3 a1_4).bind fun t276 => (some (!t276))) else (some false)) = some r := H
                        have A183 := Aside0.mk A1830
                        clear A1830
                        by_cases c184 : t275 = true
                        · subst c184
                          have H1 : ((pick_Matches.f kj112 a1_0 a1_0 a1_1 a1_1 a1_2 x268005_112 x268006_112 t265 t266 a1_0 a1_1 (Int.tmod (wrap64 (a1_2 + 1)) 256) a1_3 a1_4).bind fun t276 => (some (!t276))) = some r := by rw [if_pos rfl] at H; exact H
                          clear H
                          have H := H1
                          clear H1
                          replace H := Option.bind_eq_some_iff.mp H
                          obtain ⟨t276, A1850, H⟩ := H
                          replace H : (some (!t276)) = some r := H
                          have A185 := Aside0.mk A1850
                          clear A1850
                          obtain rfl := Option.some.inj H
                          have hnb186 := NB254_253.out
                          have hnc186 := NB253_254.out
                          have hnb187 := NB254_267.out
                          have hnc187 := NB267_254.out
                          have hcz188_0 : wc.cell? ⟨gb254, 0, none⟩ = some (.string a1_0) := (blk_cell BK254.out 0).trans rfl
                          have hcz188_1 : wc.cell? ⟨gb254, 1, none⟩ = some (.string a1_1) := (blk_cell BK254.out 1).trans rfl
                          have hcz188_2 : wc.cell? ⟨gb254, 2, none⟩ = some (.int .i64 a1_2) := (blk_cell BK254.out 2).trans rfl
                          have hcz188_3 : wc.cell? ⟨gb254, 3, none⟩ = some (.int .i64 a1_3) := (blk_cell BK254.out 3).trans rfl
                          have hcz188_4 : wc.cell? ⟨gb254, 4, none⟩ = some (.int .i64 a1_4) := (blk_cell BK254.out 4).trans rfl
                          have hfz188_0 := blk_frozen BK254.out 0
                          have hfz188_1 := blk_frozen BK254.out 1
                          have hfz188_2 := blk_frozen BK254.out 2
                          have hfz188_3 := blk_frozen BK254.out 3
                          have hfz188_4 := blk_frozen BK254.out 4
                          go_wp2_with (first | ((with_reducible refine gate_dst (N := 6) rfl ?_); (try (refine gate_guard (by rfl) ?_; dsimp only)); refine box_event ?hg (N := 6) ?hd (cs := #[.string (⟨#[]⟩ : ByteArray), .string (⟨#[]⟩ : ByteArray), .int .i64 0, .int .i64 0, .int .i64 0]) (t := 24) ?hr ?_; (case hd => rfl); (case hg => rfl); (case hr => first | (go_simp; done) | (go_simp; rfl)); intro gb273 hg w189 hbox hb; have n0_ := Aside0.mk (blk_below (g := gb253) (o := .cells #[.string a0_0, .string a0_1, .string a0_2, .string a0_3, .int .i64 a0_4, .int .i64 a0_5, .int .i64 a0_6, .int .i64 a0_7, .int .i64 a0_8] 37 (0, 0)) (by (with_reducible repeat (first | refine blk_drewN ?_ _ | refine blk_drew ?_ | refine blk_alloc ?_ _)); exact BK253.out) hb); have n1_ := Aside0.mk (blk_below (g := gb254) (o := .cells #[.string a1_0, .string a1_1, .int .i64 a1_2, .int .i64 a1_3, .int .i64 a1_4] 24 (0, 0)) (by (with_reducible repeat (first | refine blk_drewN ?_ _ | refine blk_drew ?_ | refine blk_alloc ?_ _)); exact BK254.out) hb); have n2_ := Aside0.mk (blk_below (g := gb267) (o := .cells #[.string a1_0, .string a1_0, .string a1_1, .string a1_1, .int .i64 a1_2, .int .i64 x268005_112, .int .i64 x268006_112, .int .i64 t265, .int .i64 t266] 37 (0, 0)) (by (with_reducible repeat (first | refine blk_drewN ?_ _ | refine blk_drew ?_ | refine blk_alloc ?_ _)); exact BK267.out) hb); have n3_ := Aside0.mk (below_step (by repeat (first | (with_reducible first | exact HB.out | apply below_alloc | apply pw_below_drewN | apply below_drew1 | refine below_set ?_ GE253.out | refine below_set ?_ GE254.out | refine below_set ?_ GE267.out) | exact HB.out)) hb); have n4_ := Aside0.mk (hbox); have n5_ := Aside0.mk ((by rw [hg]; exact (below_size (by repeat (first | (with_reducible first | exact HB.out | apply below_alloc | apply pw_below_drewN | apply below_drew1 | refine below_set ?_ GE253.out | refine below_set ?_ GE254.out | refine below_set ?_ GE267.out) | exact HB.out))) : w.heap.size ≤ gb273)); have n6_ := Aside0.mk ((by rw [hg]; exact (below_size (by repeat (first | (with_reducible first | exact HB.out | apply below_alloc | apply pw_below_drewN | apply below_drew1 | refine below_set ?_ GE253.out | refine below_set ?_ GE254.out | refine below_set ?_ GE267.out) | exact HB.out))) : w.heap.size ≤ gb273)); have n7_ := Aside0.mk ((by rw [hg]; exact Nat.ne_of_lt (blk_lt (g := gb253) (o := .cells #[.string a0_0, .string a0_1, .string a0_2, .string a0_3, .int .i64 a0_4, .int .i64 a0_5, .int .i64 a0_6, .int .i64 a0_7, .int .i64 a0_8] 37 (0, 0)) (by (with_reducible repeat (first | refine blk_drewN ?_ _ | refine blk_drew ?_ | refine blk_alloc ?_ _)); exact BK253.out)) : gb253 ≠ gb273)); have n8_ := Aside0.mk ((by rw [hg]; exact Nat.ne_of_gt (blk_lt (g := gb253) (o := .cells #[.string a0_0, .string a0_1, .string a0_2, .string a0_3, .int .i64 a0_4, .int .i64 a0_5, .int .i64 a0_6, .int .i64 a0_7, .int .i64 a0_8] 37 (0, 0)) (by (with_reducible repeat (first | refine blk_drewN ?_ _ | refine blk_drew ?_ | refine blk_alloc ?_ _)); exact BK253.out)) : gb273 ≠ gb253)); have n9_ := Aside0.mk ((by rw [hg]; exact Nat.ne_of_lt (blk_lt (g := gb254) (o := .cells #[.string a1_0, .string a1_1, .int .i64 a1_2, .int .i64 a1_3, .int .i64 a1_4] 24 (0, 0)) (by (with_reducible repeat (first | refine blk_drewN ?_ _ | refine blk_drew ?_ | refine blk_alloc ?_ _)); exact BK254.out)) : gb254 ≠ gb273)); have n10_ := Aside0.mk ((by rw [hg]; exact Nat.ne_of_gt (blk_lt (g := gb254) (o := .cells #[.string a1_0, .string a1_1, .int .i64 a1_2, .int .i64 a1_3, .int .i64 a1_4] 24 (0, 0)) (by (with_reducible repeat (first | refine blk_drewN ?_ _ | refine blk_drew ?_ | refine blk_alloc ?_ _)); exact BK254.out)) : gb273 ≠ gb254)); have n11_ := Aside0.mk ((by rw [hg]; exact Nat.ne_of_lt (blk_lt (g := gb267) (o := .cells #[.string a1_0, .string a1_0, .string a1_1, .string a1_1, .int .i64 a1_2, .int .i64 x268005_112, .int .i64 x268006_112, .int .i64 t265, .int .i64 t266] 37 (0, 0)) (by (with_reducible repeat (first | refine blk_drewN ?_ _ | refine blk_drew ?_ | refine blk_alloc ?_ _)); exact BK267.out)) : gb267 ≠ gb273)); have n12_ := Aside0.mk ((by rw [hg]; exact Nat.ne_of_gt (blk_lt (g := gb267) (o := .cells #[.string a1_0, .string a1_0, .string a1_1, .string a1_1, .int .i64 a1_2, .int .i64 x268005_112, .int .i64 x268006_112, .int .i64 t265, .int .i64 t266] 37 (0, 0)) (by (with_reducible repeat (first | refine blk_drewN ?_ _ | refine blk_drew ?_ | refine blk_alloc ?_ _)); exact BK267.out)) : gb273 ≠ gb267)); clear BK253; clear BK254; clear BK267; clear HB; have BK253 := n0_; have BK254 := n1_; have BK267 := n2_; have HB := n3_; have BK273 := n4_; have GW273 := n5_; have GE273 := n6_; have NB253_273 := n7_; have NB273_253 := n8_; have NB254_273 := n9_; have NB273_254 := n10_; have NB267_273 := n11_; have NB273_267 := n12_; clear n0_ n1_ n2_ n3_ n4_ n5_ n6_ n7_ n8_ n9_ n10_ n11_ n12_; clear hb hbox hg; have hnb190 := NB273_253.out; have hnc190 := NB253_273.out; have hnb191 := NB273_254.out; have hnc191 := NB254_273.out; have hnb192 := NB273_267.out; have hnc192 := NB267_273.out; have hcz193_0 : w189.cell? ⟨gb273, 0, none⟩ = some (.string (⟨#[]⟩ : ByteArray)) := (blk_cell BK273.out 0).trans rfl; have hcz193_1 : w189.cell? ⟨gb273, 1, none⟩ = some (.string (⟨#[]⟩ : ByteArray)) := (blk_cell BK273.out 1).trans rfl; have hcz193_2 : w189.cell? ⟨gb273, 2, none⟩ = some (.int .i64 0) := (blk_cell BK273.out 2).trans rfl; have hcz193_3 : w189.cell? ⟨gb273, 3, none⟩ = some (.int .i64 0) := (blk_cell BK273.out 3).trans rfl; have hcz193_4 : w189.cell? ⟨gb273, 4, none⟩ = some (.int .i64 0) := (blk_cell BK273.out 4).trans rfl; have hfz193_0 := blk_frozen BK273.out 0; have hfz193_1 := blk_frozen BK273.out 1; have hfz193_2 := blk_frozen BK273.out 2; have hfz193_3 := blk_frozen BK273.out 3; have hfz193_4 := blk_frozen BK273.out 4; have hcz194_0 : w189.cell? ⟨gb254, 0, none⟩ = some (.string a1_0) := (blk_cell BK254.out 0).trans rfl; have hcz194_1 : w189.cell? ⟨gb254, 1, none⟩ = some (.string a1_1) := (blk_cell BK254.out 1).trans rfl; have hcz194_2 : w189.cell? ⟨gb254, 2, none⟩ = some (.int .i64 a1_2) := (blk_cell BK254.out 2).trans rfl; have hcz194_3 : w189.cell? ⟨gb254, 3, none⟩ = some (.int .i64 a1_3) := (blk_cell BK254.out 3).trans rfl; have hcz194_4 : w189.cell? ⟨gb254, 4, none⟩ = some (.int .i64 a1_4) := (blk_cell BK254.out 4).trans rfl; have hfz194_0 := blk_frozen BK254.out 0; have hfz194_1 := blk_frozen BK254.out 1; have hfz194_2 := blk_frozen BK254.out 2; have hfz194_3 := blk_frozen BK254.out 3; have hfz194_4 := blk_frozen BK254.out 4) | ((with_reducible refine gate_callee (f := 10) rfl ?_); refine goesL_ (some 114) rfl rfl Try.func10 (by kernel_rfl) rfl #[] rfl (by (try simp only [List.map_toArray, List.map_cons, List.map_nil]); first | done | rfl | (simp only [List.length_drop, List.length_take]; rfl)) ?_; (with_reducible refine (redoubtlaw15_awake.calls kj112  true _ A181.out (by first | rfl | exact HRT.out)).mono ?_); rintro e w195 ⟨rfl, hb⟩; refine ⟨_, rfl, ?_⟩; have n0_ := Aside0.mk (blk_below (g := gb253) (o := .cells #[.string a0_0, .string a0_1, .string a0_2, .string a0_3, .int .i64 a0_4, .int .i64 a0_5, .int .i64 a0_6, .int .i64 a0_7, .int .i64 a0_8] 37 (0, 0)) (by (with_reducible repeat (first | refine blk_drewN ?_ _ | refine blk_drew ?_ | refine blk_alloc ?_ _)); refine blk_far ?_ NB253_273.out _; (with_reducible repeat (first | refine blk_drewN ?_ _ | refine blk_drew ?_ | refine blk_alloc ?_ _)); refine blk_far ?_ NB253_273.out _; (with_reducible repeat (first | refine blk_drewN ?_ _ | refine blk_drew ?_ | refine blk_alloc ?_ _)); refine blk_far ?_ NB253_273.out _; (with_reducible repeat (first | refine blk_drewN ?_ _ | refine blk_drew ?_ | refine blk_alloc ?_ _)); refine blk_far ?_ NB253_273.out _; (with_reducible repeat (first | refine blk_drewN ?_ _ | refine blk_drew ?_ | refine blk_alloc ?_ _)); refine blk_far ?_ NB253_273.out _; (with_reducible repeat (first | refine blk_drewN ?_ _ | refine blk_drew ?_ | refine blk_alloc ?_ _)); refine blk_far ?_ NB253_273.out _; (with_reducible repeat (first | refine blk_drewN ?_ _ | refine blk_drew ?_ | refine blk_alloc ?_ _)); exact BK253.out) hb); have n1_ := Aside0.mk (blk_below (g := gb254) (o := .cells #[.string a1_0, .string a1_1, .int .i64 a1_2, .int .i64 a1_3, .int .i64 a1_4] 24 (0, 0)) (by (with_reducible repeat (first | refine blk_drewN ?_ _ | refine blk_drew ?_ | refine blk_alloc ?_ _)); refine blk_far ?_ NB254_273.out _; (with_reducible repeat (first | refine blk_drewN ?_ _ | refine blk_drew ?_ | refine blk_alloc ?_ _)); refine blk_far ?_ NB254_273.out _; (with_reducible repeat (first | refine blk_drewN ?_ _ | refine blk_drew ?_ | refine blk_alloc ?_ _)); refine blk_far ?_ NB254_273.out _; (with_reducible repeat (first | refine blk_drewN ?_ _ | refine blk_drew ?_ | refine blk_alloc ?_ _)); refine blk_far ?_ NB254_273.out _; (with_reducible repeat (first | refine blk_drewN ?_ _ | refine blk_drew ?_ | refine blk_alloc ?_ _)); refine blk_far ?_ NB254_273.out _; (with_reducible repeat (first | refine blk_drewN ?_ _ | refine blk_drew ?_ | refine blk_alloc ?_ _)); refine blk_far ?_ NB254_273.out _; (with_reducible repeat (first | refine blk_drewN ?_ _ | refine blk_drew ?_ | refine blk_alloc ?_ _)); exact BK254.out) hb); have n2_ := Aside0.mk (blk_below (g := gb267) (o := .cells #[.string a1_0, .string a1_0, .string a1_1, .string a1_1, .int .i64 a1_2, .int .i64 x268005_112, .int .i64 x268006_112, .int .i64 t265, .int .i64 t266] 37 (0, 0)) (by (with_reducible repeat (first | refine blk_drewN ?_ _ | refine blk_drew ?_ | refine blk_alloc ?_ _)); refine blk_far ?_ NB267_273.out _; (with_reducible repeat (first | refine blk_drewN ?_ _ | refine blk_drew ?_ | refine blk_alloc ?_ _)); refine blk_far ?_ NB267_273.out _; (with_reducible repeat (first | refine blk_drewN ?_ _ | refine blk_drew ?_ | refine blk_alloc ?_ _)); refine blk_far ?_ NB267_273.out _; (with_reducible repeat (first | refine blk_drewN ?_ _ | refine blk_drew ?_ | refine blk_alloc ?_ _)); refine blk_far ?_ NB267_273.out _; (with_reducible repeat (first | refine blk_drewN ?_ _ | refine blk_drew ?_ | refine blk_alloc ?_ _)); refine blk_far ?_ NB267_273.out _; (with_reducible repeat (first | refine blk_drewN ?_ _ | refine blk_drew ?_ | refine blk_alloc ?_ _)); refine blk_far ?_ NB267_273.out _; (with_reducible repeat (first | refine blk_drewN ?_ _ | refine blk_drew ?_ | refine blk_alloc ?_ _)); exact BK267.out) hb); have n3_ := Aside0.mk (blk_below (g := gb273) (o := .cells #[.string a1_0, .string a1_1, .int .i64 (Int.tmod (wrap64 (a1_2 + 1)) 256), .int .i64 a1_3, .int .i64 a1_4] 24 (0, 0)) (by (with_reducible repeat (first | refine blk_drewN ?_ _ | refine blk_drew ?_ | refine blk_alloc ?_ _)); refine blk_put (cs := #[.string a1_0, .string a1_1, .int .i64 a1_2, .int .i64 a1_3, .int .i64 a1_4]) ?_ 2 _ rfl; (with_reducible repeat (first | refine blk_drewN ?_ _ | refine blk_drew ?_ | refine blk_alloc ?_ _)); refine blk_put (cs := #[.string a1_0, .string a1_1, .int .i64 a1_2, .int .i64 a1_3, .int .i64 0]) ?_ 4 _ rfl; (with_reducible repeat (first | refine blk_drewN ?_ _ | refine blk_drew ?_ | refine blk_alloc ?_ _)); refine blk_put (cs := #[.string a1_0, .string a1_1, .int .i64 a1_2, .int .i64 0, .int .i64 0]) ?_ 3 _ rfl; (with_reducible repeat (first | refine blk_drewN ?_ _ | refine blk_drew ?_ | refine blk_alloc ?_ _)); refine blk_put (cs := #[.string a1_0, .string a1_1, .int .i64 0, .int .i64 0, .int .i64 0]) ?_ 2 _ rfl; (with_reducible repeat (first | refine blk_drewN ?_ _ | refine blk_drew ?_ | refine blk_alloc ?_ _)); refine blk_put (cs := #[.string a1_0, .string (⟨#[]⟩ : ByteArray), .int .i64 0, .int .i64 0, .int .i64 0]) ?_ 1 _ rfl; (with_reducible repeat (first | refine blk_drewN ?_ _ | refine blk_drew ?_ | refine blk_alloc ?_ _)); refine blk_put (cs := #[.string (⟨#[]⟩ : ByteArray), .string (⟨#[]⟩ : ByteArray), .int .i64 0, .int .i64 0, .int .i64 0]) ?_ 0 _ rfl; (with_reducible repeat (first | refine blk_drewN ?_ _ | refine blk_drew ?_ | refine blk_alloc ?_ _)); exact BK273.out) hb); have n4_ := Aside0.mk (below_step (by repeat (first | (with_reducible first | exact HB.out | apply below_alloc | apply pw_below_drewN | apply below_drew1 | refine below_set ?_ GE253.out | refine below_set ?_ GE254.out | refine below_set ?_ GE267.out | refine below_set ?_ GE273.out) | exact HB.out)) hb); clear BK253; clear BK254; clear BK267; clear BK273; clear HB; have BK253 := n0_; have BK254 := n1_; have BK267 := n2_; have BK273 := n3_; have HB := n4_; clear n0_ n1_ n2_ n3_ n4_; (try clear hb); (try clear hb2); (try clear hk); (try clear hi); have hnb196 := NB267_253.out; have hnc196 := NB253_267.out; have hcz197_0 : w195.cell? ⟨gb267, 0, none⟩ = some (.string a1_0) := (blk_cell BK267.out 0).trans rfl; have hcz197_1 : w195.cell? ⟨gb267, 1, none⟩ = some (.string a1_0) := (blk_cell BK267.out 1).trans rfl; have hcz197_2 : w195.cell? ⟨gb267, 2, none⟩ = some (.string a1_1) := (blk_cell BK267.out 2).trans rfl; have hcz197_3 : w195.cell? ⟨gb267, 3, none⟩ = some (.string a1_1) := (blk_cell BK267.out 3).trans rfl; have hcz197_4 : w195.cell? ⟨gb267, 4, none⟩ = some (.int .i64 a1_2) := (blk_cell BK267.out 4).trans rfl; have hcz197_5 : w195.cell? ⟨gb267, 5, none⟩ = some (.int .i64 x268005_112) := (blk_cell BK267.out 5).trans rfl; have hcz197_6 : w195.cell? ⟨gb267, 6, none⟩ = some (.int .i64 x268006_112) := (blk_cell BK267.out 6).trans rfl; have hcz197_7 : w195.cell? ⟨gb267, 7, none⟩ = some (.int .i64 t265) := (blk_cell BK267.out 7).trans rfl; have hcz197_8 : w195.cell? ⟨gb267, 8, none⟩ = some (.int .i64 t266) := (blk_cell BK267.out 8).trans rfl; have hfz197_0 := blk_frozen BK267.out 0; have hfz197_1 := blk_frozen BK267.out 1; have hfz197_2 := blk_frozen BK267.out 2; have hfz197_3 := blk_frozen BK267.out 3; have hfz197_4 := blk_frozen BK267.out 4; have hfz197_5 := blk_frozen BK267.out 5; have hfz197_6 := blk_frozen BK267.out 6; have hfz197_7 := blk_frozen BK267.out 7; have hfz197_8 := blk_frozen BK267.out 8; have hcz198_0 : w195.cell? ⟨gb254, 0, none⟩ = some (.string a1_0) := (blk_cell BK254.out 0).trans rfl; have hcz198_1 : w195.cell? ⟨gb254, 1, none⟩ = some (.string a1_1) := (blk_cell BK254.out 1).trans rfl; have hcz198_2 : w195.cell? ⟨gb254, 2, none⟩ = some (.int .i64 a1_2) := (blk_cell BK254.out 2).trans rfl; have hcz198_3 : w195.cell? ⟨gb254, 3, none⟩ = some (.int .i64 a1_3) := (blk_cell BK254.out 3).trans rfl; have hcz198_4 : w195.cell? ⟨gb254, 4, none⟩ = some (.int .i64 a1_4) := (blk_cell BK254.out 4).trans rfl; have hfz198_0 := blk_frozen BK254.out 0; have hfz198_1 := blk_frozen BK254.out 1; have hfz198_2 := blk_frozen BK254.out 2; have hfz198_3 := blk_frozen BK254.out 3; have hfz198_4 := blk_frozen BK254.out 4) | (go_at_call 14; (with_reducible refine (pick_Matches.calls kj112 a1_0 a1_0 a1_1 a1_1 a1_2 x268005_112 x268006_112 t265 t266 a1_0 a1_1 a1_2 a1_3 a1_4 true _ A183.out).mono ?_); rintro e w199 ⟨rfl, hb⟩; have n0_ := Aside0.mk (blk_below (g := gb253) (o := .cells #[.string a0_0, .string a0_1, .string a0_2, .string a0_3, .int .i64 a0_4, .int .i64 a0_5, .int .i64 a0_6, .int .i64 a0_7, .int .i64 a0_8] 37 (0, 0)) (by (with_reducible repeat (first | refine blk_drewN ?_ _ | refine blk_drew ?_ | refine blk_alloc ?_ _)); exact BK253.out) hb); have n1_ := Aside0.mk (blk_below (g := gb254) (o := .cells #[.string a1_0, .string a1_1, .int .i64 a1_2, .int .i64 a1_3, .int .i64 a1_4] 24 (0, 0)) (by (with_reducible repeat (first | refine blk_drewN ?_ _ | refine blk_drew ?_ | refine blk_alloc ?_ _)); exact BK254.out) hb); have n2_ := Aside0.mk (blk_below (g := gb267) (o := .cells #[.string a1_0, .string a1_0, .string a1_1, .string a1_1, .int .i64 a1_2, .int .i64 x268005_112, .int .i64 x268006_112, .int .i64 t265, .int .i64 t266] 37 (0, 0)) (by (with_reducible repeat (first | refine blk_drewN ?_ _ | refine blk_drew ?_ | refine blk_alloc ?_ _)); exact BK267.out) hb); have n3_ := Aside0.mk (blk_below (g := gb273) (o := .cells #[.string a1_0, .string a1_1, .int .i64 (Int.tmod (wrap64 (a1_2 + 1)) 256), .int .i64 a1_3, .int .i64 a1_4] 24 (0, 0)) (by (with_reducible repeat (first | refine blk_drewN ?_ _ | refine blk_drew ?_ | refine blk_alloc ?_ _)); exact BK273.out) hb); have n4_ := Aside0.mk (below_step (by repeat (first | (with_reducible first | exact HB.out | apply below_alloc | apply pw_below_drewN | apply below_drew1 | refine below_set ?_ GE253.out | refine below_set ?_ GE254.out | refine below_set ?_ GE267.out | refine below_set ?_ GE273.out) | exact HB.out)) hb); clear BK253; clear BK254; clear BK267; clear BK273; clear HB; have BK253 := n0_; have BK254 := n1_; have BK267 := n2_; have BK273 := n3_; have HB := n4_; clear n0_ n1_ n2_ n3_ n4_; (try clear hb); (try clear hb2); (try clear hk); (try clear hi); have hcz200_0 : w199.cell? ⟨gb267, 0, none⟩ = some (.string a1_0) := (blk_cell BK267.out 0).trans rfl; have hcz200_1 : w199.cell? ⟨gb267, 1, none⟩ = some (.string a1_0) := (blk_cell BK267.out 1).trans rfl; have hcz200_2 : w199.cell? ⟨gb267, 2, none⟩ = some (.string a1_1) := (blk_cell BK267.out 2).trans rfl; have hcz200_3 : w199.cell? ⟨gb267, 3, none⟩ = some (.string a1_1) := (blk_cell BK267.out 3).trans rfl; have hcz200_4 : w199.cell? ⟨gb267, 4, none⟩ = some (.int .i64 a1_2) := (blk_cell BK267.out 4).trans rfl; have hcz200_5 : w199.cell? ⟨gb267, 5, none⟩ = some (.int .i64 x268005_112) := (blk_cell BK267.out 5).trans rfl; have hcz200_6 : w199.cell? ⟨gb267, 6, none⟩ = some (.int .i64 x268006_112) := (blk_cell BK267.out 6).trans rfl; have hcz200_7 : w199.cell? ⟨gb267, 7, none⟩ = some (.int .i64 t265) := (blk_cell BK267.out 7).trans rfl; have hcz200_8 : w199.cell? ⟨gb267, 8, none⟩ = some (.int .i64 t266) := (blk_cell BK267.out 8).trans rfl; have hfz200_0 := blk_frozen BK267.out 0; have hfz200_1 := blk_frozen BK267.out 1; have hfz200_2 := blk_frozen BK267.out 2; have hfz200_3 := blk_frozen BK267.out 3; have hfz200_4 := blk_frozen BK267.out 4; have hfz200_5 := blk_frozen BK267.out 5; have hfz200_6 := blk_frozen BK267.out 6; have hfz200_7 := blk_frozen BK267.out 7; have hfz200_8 := blk_frozen BK267.out 8; have hcz201_0 : w199.cell? ⟨gb273, 0, none⟩ = some (.string a1_0) := (blk_cell BK273.out 0).trans rfl; have hcz201_1 : w199.cell? ⟨gb273, 1, none⟩ = some (.string a1_1) := (blk_cell BK273.out 1).trans rfl; have hcz201_2 : w199.cell? ⟨gb273, 2, none⟩ = some (.int .i64 (Int.tmod (wrap64 (a1_2 + 1)) 256)) := (blk_cell BK273.out 2).trans rfl; have hcz201_3 : w199.cell? ⟨gb273, 3, none⟩ = some (.int .i64 a1_3) := (blk_cell BK273.out 3).trans rfl; have hcz201_4 : w199.cell? ⟨gb273, 4, none⟩ = some (.int .i64 a1_4) := (blk_cell BK273.out 4).trans rfl; have hfz201_0 := blk_frozen BK273.out 0; have hfz201_1 := blk_frozen BK273.out 1; have hfz201_2 := blk_frozen BK273.out 2; have hfz201_3 := blk_frozen BK273.out 3; have hfz201_4 := blk_frozen BK273.out 4) | (go_at_call 14; (with_reducible refine (pick_Matches.calls kj112 a1_0 a1_0 a1_1 a1_1 a1_2 x268005_112 x268006_112 t265 t266 a1_0 a1_1 (Int.tmod (wrap64 (a1_2 + 1)) 256) a1_3 a1_4 t276 _ A185.out).mono ?_); rintro e w202 ⟨rfl, hb⟩; have n0_ := Aside0.mk (blk_below (g := gb253) (o := .cells #[.string a0_0, .string a0_1, .string a0_2, .string a0_3, .int .i64 a0_4, .int .i64 a0_5, .int .i64 a0_6, .int .i64 a0_7, .int .i64 a0_8] 37 (0, 0)) (by (with_reducible repeat (first | refine blk_drewN ?_ _ | refine blk_drew ?_ | refine blk_alloc ?_ _)); exact BK253.out) hb); have n1_ := Aside0.mk (blk_below (g := gb254) (o := .cells #[.string a1_0, .string a1_1, .int .i64 a1_2, .int .i64 a1_3, .int .i64 a1_4] 24 (0, 0)) (by (with_reducible repeat (first | refine blk_drewN ?_ _ | refine blk_drew ?_ | refine blk_alloc ?_ _)); exact BK254.out) hb); have n2_ := Aside0.mk (blk_below (g := gb267) (o := .cells #[.string a1_0, .string a1_0, .string a1_1, .string a1_1, .int .i64 a1_2, .int .i64 x268005_112, .int .i64 x268006_112, .int .i64 t265, .int .i64 t266] 37 (0, 0)) (by (with_reducible repeat (first | refine blk_drewN ?_ _ | refine blk_drew ?_ | refine blk_alloc ?_ _)); exact BK267.out) hb); have n3_ := Aside0.mk (blk_below (g := gb273) (o := .cells #[.string a1_0, .string a1_1, .int .i64 (Int.tmod (wrap64 (a1_2 + 1)) 256), .int .i64 a1_3, .int .i64 a1_4] 24 (0, 0)) (by (with_reducible repeat (first | refine blk_drewN ?_ _ | refine blk_drew ?_ | refine blk_alloc ?_ _)); exact BK273.out) hb); have n4_ := Aside0.mk (below_step (by repeat (first | (with_reducible first | exact HB.out | apply below_alloc | apply pw_below_drewN | apply below_drew1 | refine below_set ?_ GE253.out | refine below_set ?_ GE254.out | refine below_set ?_ GE267.out | refine below_set ?_ GE273.out) | exact HB.out)) hb); clear BK253; clear BK254; clear BK267; clear BK273; clear HB; have BK253 := n0_; have BK254 := n1_; have BK267 := n2_; have BK273 := n3_; have HB := n4_; clear n0_ n1_ n2_ n3_ n4_; (try clear hb); (try clear hb2); (try clear hk); (try clear hi)))
                          go_ret
                          exact ⟨by first | rfl | (simp [errW_none, errW_some] <;> rfl) | (simp [*, errW_none, errW_some] <;> rfl), by repeat (first | (with_reducible first | exact HB.out | apply below_alloc | apply pw_below_drewN | apply below_drew1 | refine below_set ?_ GE253.out | refine below_set ?_ GE254.out | refine below_set ?_ GE267.out | refine below_set ?_ GE273.out) | exact HB.out)⟩
                        · replace c184 := Bool.eq_false_iff.mpr c184
                          subst c184
                          have H1 : (some false) = some r := by rw [if_neg (show ¬ (false = true) by decide)] at H; exact H
                          clear H
                          have H := H1
                          clear H1
                          exact absurd (HRT.out.symm.trans (Option.some.inj H).symm) (by decide)
                      · replace c182 := Bool.eq_false_iff.mpr c182
                        subst c182
                        have H1 : (some false) = some r := by rw [if_neg (show ¬ (false = true) by decide)] at H; exact H
                        clear H
                        have H := H1
                        clear H1
                        exact absurd (HRT.out.symm.trans (Option.some.inj H).symm) (by decide)
              · replace c112 := Bool.eq_false_iff.mpr c112
                subst c112
                have H1 : (some false) = some r := by rw [if_neg (show ¬ (false = true) by decide)] at H; exact H
                clear H
                have H := H1
                clear H1
                exact absurd (HRT.out.symm.trans (Option.some.inj H).symm) (by decide)
end Go.Proofs.Ytcohcbfodmoblaa.QPk

-- PRINTED BY print.sh 35421559b90ae4d0a3588c463048766b98c2df88dd9212a6774a882060cdf62d: not written by this session
import Derived.Test.YtpodidgdlcfaeaaPIp6Laysx0
import Derived.Test.YtpodidgdlcfaeaaPIp6Laysx3
import Derived.Test.YtpodidgdlcfaeaaPIp6Laysx4
namespace Go.Proofs.Ytpodidgdlcfaeaa.PIp6Lays
open Go.RowKit Go.Proofs.YtpodidgdlcfaeaaW.PrintWords Go.Proofs.YtpodidgdlcfaeaaW.PrintLast Go.Proofs.YtpodidgdlcfaeaaW.PrintMore
attribute [local go_sem] max2_int min2_int max_two min_two max_three min_three max_four min_four   -- for this text's walks alone
set_option linter.unusedVariables false
set_option linter.unusedSimpArgs false

/-! ### redoubtref04_Check: function 15 -/
mutual
def redoubtref04_Check.j0 : Nat → Bool → Int → Int → Int → ByteArray → ByteArray → List (S43) → Int → List Int → Option (Int)
  | 0, _, _, _, _, _, _, _, _, _ => none
  | k + 1, x42, x151000, x151001, x151002, x151003, x151004, x151005, x151006, x151007 => if x42 = true then (some 1) else (redoubtref04_Check.l0 k 0 x151000 x151001 x151002 x151003 x151004 x151005 x151006 x151007)
def redoubtref04_Check.l0 : Nat → Int → Int → Int → Int → ByteArray → ByteArray → List (S43) → Int → List Int → Option (Int)
  | 0, _, _, _, _, _, _, _, _, _ => none
  | k + 1, x3, x151000, x151001, x151002, x151003, x151004, x151005, x151006, x151007 => if x3 < (x151005.length : Int) then (if 0 ≤ x3 then ((redoubtref04_ext.f k ((rd_T43 x151005 x3).f0) ((rd_T43 x151005 x3).f1) x3).bind fun t157 => (if t157 = true then (redoubtref04_Check.l0 k (wrap64 (x3 + 1)) x151000 x151001 x151002 x151003 x151004 x151005 x151006 x151007) else (some 1))) else (none)) else ((redoubtref04_size.f k x151000 x151001 x151002 x151003 x151004 x151005 x151006 x151007).bind fun t158 => (if t158 > 65535 then (some 2) else (some 0)))
end
def redoubtref04_Check.f (k : Nat) (a0_0 : Int) (a0_1 : Int) (a0_2 : Int) (a0_3 : ByteArray) (a0_4 : ByteArray) (l0_5 : List (S43)) (a0_6 : Int) (l0_7 : List Int) : Option (Int) := (redoubtref04_in.f a0_0 255).bind fun t151 => (if t151 = true then ((redoubtref04_in.f a0_2 255).bind fun t152 => (if t152 = true then ((redoubtref04_in.f a0_6 255).bind fun t153 => (if t153 = true then ((redoubtref04_in.f a0_1 1048575).bind fun t154 => (if t154 = true then (if (a0_3.size : Int) = 16 then (if (a0_4.size : Int) = 16 then ((redoubtref04_Between.f a0_6).bind fun t155 => (redoubtref04_Check.j0 k t155 a0_0 a0_1 a0_2 a0_3 a0_4 l0_5 a0_6 l0_7)) else (redoubtref04_Check.j0 k true a0_0 a0_1 a0_2 a0_3 a0_4 l0_5 a0_6 l0_7)) else (redoubtref04_Check.j0 k true a0_0 a0_1 a0_2 a0_3 a0_4 l0_5 a0_6 l0_7)) else (redoubtref04_Check.j0 k true a0_0 a0_1 a0_2 a0_3 a0_4 l0_5 a0_6 l0_7))) else (redoubtref04_Check.j0 k true a0_0 a0_1 a0_2 a0_3 a0_4 l0_5 a0_6 l0_7))) else (redoubtref04_Check.j0 k true a0_0 a0_1 a0_2 a0_3 a0_4 l0_5 a0_6 l0_7))) else (redoubtref04_Check.j0 k true a0_0 a0_1 a0_2 a0_3 a0_4 l0_5 a0_6 l0_7))
theorem redoubtref04_Check.mono_l : ∀ k, (∀ y0 y1 y2 y3 y4 y5 y6 y7 y8, LeO (redoubtref04_Check.j0 k y0 y1 y2 y3 y4 y5 y6 y7 y8) (redoubtref04_Check.j0 (k + 1) y0 y1 y2 y3 y4 y5 y6 y7 y8)) ∧ (∀ y0 y1 y2 y3 y4 y5 y6 y7 y8, LeO (redoubtref04_Check.l0 k y0 y1 y2 y3 y4 y5 y6 y7 y8) (redoubtref04_Check.l0 (k + 1) y0 y1 y2 y3 y4 y5 y6 y7 y8))
  | 0 => ⟨fun _ _ _ _ _ _ _ _ _ r h => by simp [redoubtref04_Check.j0] at h, fun _ _ _ _ _ _ _ _ _ r h => by simp [redoubtref04_Check.l0] at h⟩
  | k + 1 => by
    obtain ⟨ih0, ih1⟩ := redoubtref04_Check.mono_l k
    refine ⟨?_, ?_⟩
    · intro y0 y1 y2 y3 y4 y5 y6 y7 y8
      unfold redoubtref04_Check.j0
      repeat' first
      | (with_reducible exact ih0 _ _ _ _ _ _ _ _ _)
      | (with_reducible exact ih1 _ _ _ _ _ _ _ _ _)
      | (with_reducible exact redoubtref04_ext.mono _ _ _ _)
      | (with_reducible exact redoubtref04_size.mono _ _ _ _ _ _ _ _ _)
      | (with_reducible exact LeO.refl _)
      | (with_reducible exact LeO.none _)
      | (with_reducible refine LeO.ite ?_ ?_)
      | (with_reducible refine LeO.bind ?_ (fun _ => ?_))
      | exact ih0 _ _ _ _ _ _ _ _ _
      | exact ih1 _ _ _ _ _ _ _ _ _
      | exact redoubtref04_ext.mono _ _ _ _
      | exact redoubtref04_size.mono _ _ _ _ _ _ _ _ _
      | exact LeO.none _
      | refine LeO.ite ?_ ?_
      | refine LeO.bind ?_ (fun _ => ?_)
    · intro y0 y1 y2 y3 y4 y5 y6 y7 y8
      unfold redoubtref04_Check.l0
      repeat' first
      | (with_reducible exact ih0 _ _ _ _ _ _ _ _ _)
      | (with_reducible exact ih1 _ _ _ _ _ _ _ _ _)
      | (with_reducible exact redoubtref04_ext.mono _ _ _ _)
      | (with_reducible exact redoubtref04_size.mono _ _ _ _ _ _ _ _ _)
      | (with_reducible exact LeO.refl _)
      | (with_reducible exact LeO.none _)
      | (with_reducible refine LeO.ite ?_ ?_)
      | (with_reducible refine LeO.bind ?_ (fun _ => ?_))
      | exact ih0 _ _ _ _ _ _ _ _ _
      | exact ih1 _ _ _ _ _ _ _ _ _
      | exact redoubtref04_ext.mono _ _ _ _
      | exact redoubtref04_size.mono _ _ _ _ _ _ _ _ _
      | exact LeO.none _
      | refine LeO.ite ?_ ?_
      | refine LeO.bind ?_ (fun _ => ?_)
theorem redoubtref04_Check.mono : ∀ a0 a1 a2 a3 a4 a5 a6 a7 k, LeO (redoubtref04_Check.f k a0 a1 a2 a3 a4 a5 a6 a7) (redoubtref04_Check.f (k + 1) a0 a1 a2 a3 a4 a5 a6 a7) := by
  intro a0 a1 a2 a3 a4 a5 a6 a7 k
  obtain ⟨ih0, ih1⟩ := redoubtref04_Check.mono_l k
  unfold redoubtref04_Check.f
  repeat' first
      | (with_reducible exact ih0 _ _ _ _ _ _ _ _ _)
      | (with_reducible exact ih1 _ _ _ _ _ _ _ _ _)
      | (with_reducible exact redoubtref04_ext.mono _ _ _ _)
      | (with_reducible exact redoubtref04_size.mono _ _ _ _ _ _ _ _ _)
      | (with_reducible exact LeO.refl _)
      | (with_reducible exact LeO.none _)
      | (with_reducible refine LeO.ite ?_ ?_)
      | (with_reducible refine LeO.bind ?_ (fun _ => ?_))
      | exact ih0 _ _ _ _ _ _ _ _ _
      | exact ih1 _ _ _ _ _ _ _ _ _
      | exact redoubtref04_ext.mono _ _ _ _
      | exact redoubtref04_size.mono _ _ _ _ _ _ _ _ _
      | exact LeO.none _
      | refine LeO.ite ?_ ?_
      | refine LeO.bind ?_ (fun _ => ?_)
set_option maxHeartbeats 8000000 in
set_option maxRecDepth 100000 in
theorem redoubtref04_Check.calls (k : Nat) (a0_0 : Int) (a0_1 : Int) (a0_2 : Int) (a0_3 : ByteArray) (a0_4 : ByteArray) (A0_5 : Option Addr) (c0_5 : Nat) (l0_5 : List (S43)) (a0_6 : Int) (A0_7 : Option Addr) (c0_7 : Nat) (l0_7 : List Int) (r : Int) (w : World) (hr0_5 : Kd.C k43 w A0_5 l0_5.length l0_5) (hc0_5 : l0_5.length ≤ c0_5) (hr0_7 : Kd.C (Kd.int .u8) w A0_7 l0_7.length l0_7) (hc0_7 : l0_7.length ≤ c0_7) (h : redoubtref04_Check.f k a0_0 a0_1 a0_2 a0_3 a0_4 l0_5 a0_6 l0_7 = some r) :
    Calls Try.prog 15 #[.agg #[.int .i64 a0_0, .int .i64 a0_1, .int .i64 a0_2, .string a0_3, .string a0_4, .slice A0_5 l0_5.length c0_5, .int .i64 a0_6, .slice A0_7 l0_7.length c0_7]] w fun e w' => e = .returned (.int .i64 r) ∧ Below w.heap.size w w' := by
  have hu26 := Try.underlying26
  have hu43 := Try.underlying43
  have HR0_5 := Aside0.mk hr0_5
  have HC0_5 := Aside0.mk hc0_5
  clear hr0_5 hc0_5
  have HR0_7 := Aside0.mk hr0_7
  have HC0_7 := Aside0.mk hc0_7
  clear hr0_7 hc0_7
  have HB := Aside0.mk (Below.refl w.heap.size w)
  have H : ((redoubtref04_in.f a0_0 255).bind fun t151 => (if t151 = true then ((redoubtref04_in.f a0_2 255).bind fun t152 => (if t152 = true then ((redoubtref04_in.f a0_6 255).bind fun t153 => (if t153 = true then ((redoubtref04_in.f a0_1 1048575).bind fun t154 => (if t154 = true then (if (a0_3.size : Int) = 16 then (if (a0_4.size : Int) = 16 then ((redoubtref04_Between.f a0_6).bind fun t155 => (redoubtref04_Check.j0 k t155 a0_0 a0_1 a0_2 a0_3 a0_4 l0_5 a0_6 l0_7)) else (redoubtref04_Check.j0 k true a0_0 a0_1 a0_2 a0_3 a0_4 l0_5 a0_6 l0_7)) else (redoubtref04_Check.j0 k true a0_0 a0_1 a0_2 a0_3 a0_4 l0_5 a0_6 l0_7)) else (redoubtref04_Check.j0 k true a0_0 a0_1 a0_2 a0_3 a0_4 l0_5 a0_6 l0_7))) else (redoubtref04_Check.j0 k true a0_0 a0_1 a0_2 a0_3 a0_4 l0_5 a0_6 l0_7))) else (redoubtref04_Check.j0 k true a0_0 a0_1 a0_2 a0_3 a0_4 l0_5 a0_6 l0_7))) else (redoubtref04_Check.j0 k true a0_0 a0_1 a0_2 a0_3 a0_4 l0_5 a0_6 l0_7))) = some r := h
  clear h
  have HC2 := Aside0.mk H
  clear H
  go_enter Try.func15, Try.ntmps15
  go_upto_region 1 with (first | ((with_reducible refine gate_dst (N := 1) rfl ?_); (try (refine gate_guard (by rfl) ?_; dsimp only)); refine box_event ?hg (N := 1) ?hd (cs := #[.int .i64 a0_0, .int .i64 a0_1, .int .i64 a0_2, .string a0_3, .string a0_4, .slice A0_5 l0_5.length c0_5, .int .i64 a0_6, .slice A0_7 l0_7.length c0_7]) (t := 26) ?hr ?_; (case hd => rfl); (case hg => rfl); (case hr => first | (go_simp; done) | (go_simp; rfl)); intro gb150 hg w3 hbox hb; have n0_ := Aside0.mk (below_step (by repeat (first | (with_reducible first | exact HB.out | apply below_alloc | apply pw_below_drewN | apply below_drew1) | exact HB.out)) hb); have n1_ := Aside0.mk (hbox); have n2_ := Aside0.mk ((by rw [hg]; exact (below_size (by repeat (first | (with_reducible first | exact HB.out | apply below_alloc | apply pw_below_drewN | apply below_drew1) | exact HB.out))) : w.heap.size ≤ gb150)); have n3_ := Aside0.mk ((by rw [hg]; exact (below_size (by repeat (first | (with_reducible first | exact HB.out | apply below_alloc | apply pw_below_drewN | apply below_drew1) | exact HB.out))) : w.heap.size ≤ gb150)); clear HB; have HB := n0_; have BK150 := n1_; have GW150 := n2_; have GE150 := n3_; clear n0_ n1_ n2_ n3_; clear hb hbox hg))
  (try simp only [Act.put, List.setIfInBounds_toArray, List.set_cons_zero, List.set_cons_succ])
  go_cut [42] (fun v42 wc => ∃ (kq : Nat) (x42_1 : Bool), v42 = .bool x42_1 ∧ Aside0 (redoubtref04_Check.j0 kq x42_1 a0_0 a0_1 a0_2 a0_3 a0_4 l0_5 a0_6 l0_7 = some r) ∧ Aside0 (kq ≤ k) ∧ Aside0 (wc.heap[gb150]? = some (.cells #[.int .i64 a0_0, .int .i64 a0_1, .int .i64 a0_2, .string a0_3, .string a0_4, (.slice A0_5 l0_5.length c0_5), .int .i64 a0_6, (.slice A0_7 l0_7.length c0_7)] 26 (0, 0))) ∧ Aside0 (Below w.heap.size w wc))
  case first =>
    have H := HC2.out
    clear HC2
    replace H := Option.bind_eq_some_iff.mp H
    obtain ⟨t151, A40, H⟩ := H
    replace H : (if t151 = true then ((redoubtref04_in.f a0_2 255).bind fun t152 => (if t152 = true then ((redoubtref04_in.f a0_6 255).bind fun t153 => (if t153 = true then ((redoubtref04_in.f a0_1 1048575).bind fun t154 => (if t154 = true then (if (a0_3.size : Int) = 16 then (if (a0_4.size : Int) = 16 then ((redoubtref04_Between.f a0_6).bind fun t155 => (redoubtref04_Check.j0 k t155 a0_0 a0_1 a0_2 a0_3 a0_4 l0_5 a0_6 l0_7)) else (redoubtref04_Check.j0 k true a0_0 a0_1 a0_2 a0_3 a0_4 l0_5 a0_6 l0_7)) else (redoubtref04_Check.j0 k true a0_0 a0_1 a0_2 a0_3 a0_4 l0_5 a0_6 l0_7)) else (redoubtref04_Check.j0 k true a0_0 a0_1 a0_2 a0_3 a0_4 l0_5 a0_6 l0_7))) else (redoubtref04_Check.j0 k true a0_0 a0_1 a0_2 a0_3 a0_4 l0_5 a0_6 l0_7))) else (redoubtref04_Check.j0 k true a0_0 a0_1 a0_2 a0_3 a0_4 l0_5 a0_6 l0_7))) else (redoubtref04_Check.j0 k true a0_0 a0_1 a0_2 a0_3 a0_4 l0_5 a0_6 l0_7)) = some r := H
    have A4 := Aside0.mk A40
    clear A40
    by_cases c5 : t151 = true
    · subst c5
      have H1 : ((redoubtref04_in.f a0_2 255).bind fun t152 => (if t152 = true then ((redoubtref04_in.f a0_6 255).bind fun t153 => (if t153 = true then ((redoubtref04_in.f a0_1 1048575).bind fun t154 => (if t154 = true then (if (a0_3.size : Int) = 16 then (if (a0_4.size : Int) = 16 then ((redoubtref04_Between.f a0_6).bind fun t155 => (redoubtref04_Check.j0 k t155 a0_0 a0_1 a0_2 a0_3 a0_4 l0_5 a0_6 l0_7)) else (redoubtref04_Check.j0 k true a0_0 a0_1 a0_2 a0_3 a0_4 l0_5 a0_6 l0_7)) else (redoubtref04_Check.j0 k true a0_0 a0_1 a0_2 a0_3 a0_4 l0_5 a0_6 l0_7)) else (redoubtref04_Check.j0 k true a0_0 a0_1 a0_2 a0_3 a0_4 l0_5 a0_6 l0_7))) else (redoubtref04_Check.j0 k true a0_0 a0_1 a0_2 a0_3 a0_4 l0_5 a0_6 l0_7))) else (redoubtref04_Check.j0 k true a0_0 a0_1 a0_2 a0_3 a0_4 l0_5 a0_6 l0_7))) = some r := by rw [if_pos rfl] at H; exact H
      clear H
      have H := H1
      clear H1
      replace H := Option.bind_eq_some_iff.mp H
      obtain ⟨t152, A60, H⟩ := H
      replace H : (if t152 = true then ((redoubtref04_in.f a0_6 255).bind fun t153 => (if t153 = true then ((redoubtref04_in.f a0_1 1048575).bind fun t154 => (if t154 = true then (if (a0_3.size : Int) = 16 then (if (a0_4.size : Int) = 16 then ((redoubtref04_Between.f a0_6).bind fun t155 => (redoubtref04_Check.j0 k t155 a0_0 a0_1 a0_2 a0_3 a0_4 l0_5 a0_6 l0_7)) else (redoubtref04_Check.j0 k true a0_0 a0_1 a0_2 a0_3 a0_4 l0_5 a0_6 l0_7)) else (redoubtref04_Check.j0 k true a0_0 a0_1 a0_2 a0_3 a0_4 l0_5 a0_6 l0_7)) else (redoubtref04_Check.j0 k true a0_0 a0_1 a0_2 a0_3 a0_4 l0_5 a0_6 l0_7))) else (redoubtref04_Check.j0 k true a0_0 a0_1 a0_2 a0_3 a0_4 l0_5 a0_6 l0_7))) else (redoubtref04_Check.j0 k true a0_0 a0_1 a0_2 a0_3 a0_4 l0_5 a0_6 l0_7)) = some r := H
      have A6 := Aside0.mk A60
      clear A60
      by_cases c7 : t152 = true
      · subst c7
        have H1 : ((redoubtref04_in.f a0_6 255).bind fun t153 => (if t153 = true then ((redoubtref04_in.f a0_1 1048575).bind fun t154 => (if t154 = true then (if (a0_3.size : Int) = 16 then (if (a0_4.size : Int) = 16 then ((redoubtref04_Between.f a0_6).bind fun t155 => (redoubtref04_Check.j0 k t155 a0_0 a0_1 a0_2 a0_3 a0_4 l0_5 a0_6 l0_7)) else (redoubtref04_Check.j0 k true a0_0 a0_1 a0_2 a0_3 a0_4 l0_5 a0_6 l0_7)) else (redoubtref04_Check.j0 k true a0_0 a0_1 a0_2 a0_3 a0_4 l0_5 a0_6 l0_7)) else (redoubtref04_Check.j0 k true a0_0 a0_1 a0_2 a0_3 a0_4 l0_5 a0_6 l0_7))) else (redoubtref04_Check.j0 k true a0_0 a0_1 a0_2 a0_3 a0_4 l0_5 a0_6 l0_7))) = some r := by rw [if_pos rfl] at H; exact H
        clear H
        have H := H1
        clear H1
        replace H := Option.bind_eq_some_iff.mp H
        obtain ⟨t153, A80, H⟩ := H
        replace H : (if t153 = true then ((redoubtref04_in.f a0_1 1048575).bind fun t154 => (if t154 = true then (if (a0_3.size : Int) = 16 then (if (a0_4.size : Int) = 16 then ((redoubtref04_Between.f a0_6).bind fun t155 => (redoubtref04_Check.j0 k t155 a0_0 a0_1 a0_2 a0_3 a0_4 l0_5 a0_6 l0_7)) else (redoubtref04_Check.j0 k true a0_0 a0_1 a0_2 a0_3 a0_4 l0_5 a0_6 l0_7)) else (redoubtref04_Check.j0 k true a0_0 a0_1 a0_2 a0_3 a0_4 l0_5 a0_6 l0_7)) else (redoubtref04_Check.j0 k true a0_0 a0_1 a0_2 a0_3 a0_4 l0_5 a0_6 l0_7))) else (redoubtref04_Check.j0 k true a0_0 a0_1 a0_2 a0_3 a0_4 l0_5 a0_6 l0_7)) = some r := H
        have A8 := Aside0.mk A80
        clear A80
        by_cases c9 : t153 = true
        · subst c9
          have H1 : ((redoubtref04_in.f a0_1 1048575).bind fun t154 => (if t154 = true then (if (a0_3.size : Int) = 16 then (if (a0_4.size : Int) = 16 then ((redoubtref04_Between.f a0_6).bind fun t155 => (redoubtref04_Check.j0 k t155 a0_0 a0_1 a0_2 a0_3 a0_4 l0_5 a0_6 l0_7)) else (redoubtref04_Check.j0 k true a0_0 a0_1 a0_2 a0_3 a0_4 l0_5 a0_6 l0_7)) else (redoubtref04_Check.j0 k true a0_0 a0_1 a0_2 a0_3 a0_4 l0_5 a0_6 l0_7)) else (redoubtref04_Check.j0 k true a0_0 a0_1 a0_2 a0_3 a0_4 l0_5 a0_6 l0_7))) = some r := by rw [if_pos rfl] at H; exact H
          clear H
          have H := H1
          clear H1
          replace H := Option.bind_eq_some_iff.mp H
          obtain ⟨t154, A100, H⟩ := H
          replace H : (if t154 = true then (if (a0_3.size : Int) = 16 then (if (a0_4.size : Int) = 16 then ((redoubtref04_Between.f a0_6).bind fun t155 => (redoubtref04_Check.j0 k t155 a0_0 a0_1 a0_2 a0_3 a0_4 l0_5 a0_6 l0_7)) else (redoubtref04_Check.j0 k true a0_0 a0_1 a0_2 a0_3 a0_4 l0_5 a0_6 l0_7)) else (redoubtref04_Check.j0 k true a0_0 a0_1 a0_2 a0_3 a0_4 l0_5 a0_6 l0_7)) else (redoubtref04_Check.j0 k true a0_0 a0_1 a0_2 a0_3 a0_4 l0_5 a0_6 l0_7)) = some r := H
          have A10 := Aside0.mk A100
          clear A100
          by_cases c11 : t154 = true
          · subst c11
            have H1 : (if (a0_3.size : Int) = 16 then (if (a0_4.size : Int) = 16 then ((redoubtref04_Between.f a0_6).bind fun t155 => (redoubtref04_Check.j0 k t155 a0_0 a0_1 a0_2 a0_3 a0_4 l0_5 a0_6 l0_7)) else (redoubtref04_Check.j0 k true a0_0 a0_1 a0_2 a0_3 a0_4 l0_5 a0_6 l0_7)) else (redoubtref04_Check.j0 k true a0_0 a0_1 a0_2 a0_3 a0_4 l0_5 a0_6 l0_7)) = some r := by rw [if_pos rfl] at H; exact H
            clear H
            have H := H1
            clear H1
            by_cases c12 : (a0_3.size : Int) = 16
            · rw [if_pos c12] at H
              have c12b0 : ((a0_3.size : Int) == 16) = true := beq_iff_eq.mpr c12
              have c12b1 : ((a0_3.size : Int) != 16) = false := bne_eq_false_iff_eq.mpr c12
              clear c12
              (first | rw [c12b0] | (simp only [i64_w, i32_w]; rw [c12b0]) | skip)
              by_cases c13 : (a0_4.size : Int) = 16
              · rw [if_pos c13] at H
                have c13b0 : ((a0_4.size : Int) == 16) = true := beq_iff_eq.mpr c13
                have c13b1 : ((a0_4.size : Int) != 16) = false := bne_eq_false_iff_eq.mpr c13
                clear c13
                replace H := Option.bind_eq_some_iff.mp H
                obtain ⟨t155, A140, H⟩ := H
                replace H : (redoubtref04_Check.j0 k t155 a0_0 a0_1 a0_2 a0_3 a0_4 l0_5 a0_6 l0_7) = some r := H
                have A14 := Aside0.mk A140
                clear A140
                have H' := Aside0.mk H
                clear H
                have hcz15_0 : w3.cell? ⟨gb150, 0, none⟩ = some (.int .i64 a0_0) := (blk_cell BK150.out 0).trans rfl
                have hcz15_1 : w3.cell? ⟨gb150, 1, none⟩ = some (.int .i64 a0_1) := (blk_cell BK150.out 1).trans rfl
                have hcz15_2 : w3.cell? ⟨gb150, 2, none⟩ = some (.int .i64 a0_2) := (blk_cell BK150.out 2).trans rfl
                have hcz15_3 : w3.cell? ⟨gb150, 3, none⟩ = some (.string a0_3) := (blk_cell BK150.out 3).trans rfl
                have hcz15_4 : w3.cell? ⟨gb150, 4, none⟩ = some (.string a0_4) := (blk_cell BK150.out 4).trans rfl
                have hcz15_5 : w3.cell? ⟨gb150, 5, none⟩ = some (.slice A0_5 l0_5.length c0_5) := (blk_cell BK150.out 5).trans rfl
                have hcz15_6 : w3.cell? ⟨gb150, 6, none⟩ = some (.int .i64 a0_6) := (blk_cell BK150.out 6).trans rfl
                have hcz15_7 : w3.cell? ⟨gb150, 7, none⟩ = some (.slice A0_7 l0_7.length c0_7) := (blk_cell BK150.out 7).trans rfl
                have hfz15_0 := blk_frozen BK150.out 0
                have hfz15_1 := blk_frozen BK150.out 1
                have hfz15_2 := blk_frozen BK150.out 2
                have hfz15_3 := blk_frozen BK150.out 3
                have hfz15_4 := blk_frozen BK150.out 4
                have hfz15_5 := blk_frozen BK150.out 5
                have hfz15_6 := blk_frozen BK150.out 6
                have hfz15_7 := blk_frozen BK150.out 7
                go_wp2_with (first | ((with_reducible refine gate_callee (f := 25) rfl ?_); refine goesL_ (some 6) rfl rfl Try.func25 (by kernel_rfl) rfl #[.int .i64 a0_0, .int .i64 255] rfl (by (try simp only [List.map_toArray, List.map_cons, List.map_nil]); first | done | rfl | (simp only [List.length_drop, List.length_take]; rfl)) ?_; (with_reducible refine (redoubtref04_in.calls a0_0 255 true _ A4.out).mono ?_); rintro e w' ⟨rfl, ⟨nd, rfl⟩⟩; refine ⟨_, rfl, ?_⟩) | (go_at_call 25; (with_reducible refine (redoubtref04_in.calls a0_2 255 true _ A6.out).mono ?_); rintro e w' ⟨rfl, ⟨nd, rfl⟩⟩) | (go_at_call 25; (with_reducible refine (redoubtref04_in.calls a0_6 255 true _ A8.out).mono ?_); rintro e w' ⟨rfl, ⟨nd, rfl⟩⟩) | (go_at_call 25; (with_reducible refine (redoubtref04_in.calls a0_1 1048575 true _ A10.out).mono ?_); rintro e w' ⟨rfl, ⟨nd, rfl⟩⟩) | (go_at_call 18; (with_reducible refine (redoubtref04_Between.calls a0_6 t155 _ A14.out).mono ?_); rintro e w' ⟨rfl, ⟨nd, rfl⟩⟩))
                go_meet
                case rel => exact ⟨_, (t155), (by first | rfl | (simp; done) | (simp [*]; done)), H', ⟨by first | omega | exact Nat.le_refl _⟩, ⟨by (with_reducible repeat (first | refine blk_drewN ?_ _ | refine blk_drew ?_ | refine blk_alloc ?_ _)); exact BK150.out⟩, ⟨by repeat (first | (with_reducible first | exact HB.out | apply below_alloc | apply pw_below_drewN | apply below_drew1 | refine below_set ?_ GE150.out) | exact HB.out)⟩⟩
              · rw [if_neg c13] at H
                have c13b0 : ((a0_4.size : Int) == 16) = false := beq_eq_false_iff_ne.mpr c13
                have c13b1 : ((a0_4.size : Int) != 16) = true := bne_iff_ne.mpr c13
                have H' := Aside0.mk H
                clear H
                have hcz16_0 : w3.cell? ⟨gb150, 0, none⟩ = some (.int .i64 a0_0) := (blk_cell BK150.out 0).trans rfl
                have hcz16_1 : w3.cell? ⟨gb150, 1, none⟩ = some (.int .i64 a0_1) := (blk_cell BK150.out 1).trans rfl
                have hcz16_2 : w3.cell? ⟨gb150, 2, none⟩ = some (.int .i64 a0_2) := (blk_cell BK150.out 2).trans rfl
                have hcz16_3 : w3.cell? ⟨gb150, 3, none⟩ = some (.string a0_3) := (blk_cell BK150.out 3).trans rfl
                have hcz16_4 : w3.cell? ⟨gb150, 4, none⟩ = some (.string a0_4) := (blk_cell BK150.out 4).trans rfl
                have hcz16_5 : w3.cell? ⟨gb150, 5, none⟩ = some (.slice A0_5 l0_5.length c0_5) := (blk_cell BK150.out 5).trans rfl
                have hcz16_6 : w3.cell? ⟨gb150, 6, none⟩ = some (.int .i64 a0_6) := (blk_cell BK150.out 6).trans rfl
                have hcz16_7 : w3.cell? ⟨gb150, 7, none⟩ = some (.slice A0_7 l0_7.length c0_7) := (blk_cell BK150.out 7).trans rfl
                have hfz16_0 := blk_frozen BK150.out 0
                have hfz16_1 := blk_frozen BK150.out 1
                have hfz16_2 := blk_frozen BK150.out 2
                have hfz16_3 := blk_frozen BK150.out 3
                have hfz16_4 := blk_frozen BK150.out 4
                have hfz16_5 := blk_frozen BK150.out 5
                have hfz16_6 := blk_frozen BK150.out 6
                have hfz16_7 := blk_frozen BK150.out 7
                go_wp2_with (first | ((with_reducible refine gate_callee (f := 25) rfl ?_); refine goesL_ (some 6) rfl rfl Try.func25 (by kernel_rfl) rfl #[.int .i64 a0_0, .int .i64 255] rfl (by (try simp only [List.map_toArray, List.map_cons, List.map_nil]); first | done | rfl | (simp only [List.length_drop, List.length_take]; rfl)) ?_; (with_reducible refine (redoubtref04_in.calls a0_0 255 true _ A4.out).mono ?_); rintro e w' ⟨rfl, ⟨nd, rfl⟩⟩; refine ⟨_, rfl, ?_⟩) | (go_at_call 25; (with_reducible refine (redoubtref04_in.calls a0_2 255 true _ A6.out).mono ?_); rintro e w' ⟨rfl, ⟨nd, rfl⟩⟩) | (go_at_call 25; (with_reducible refine (redoubtref04_in.calls a0_6 255 true _ A8.out).mono ?_); rintro e w' ⟨rfl, ⟨nd, rfl⟩⟩) | (go_at_call 25; (with_reducible refine (redoubtref04_in.calls a0_1 1048575 true _ A10.out).mono ?_); rintro e w' ⟨rfl, ⟨nd, rfl⟩⟩))
                go_meet
                case rel => exact ⟨_, (true), (by first | rfl | (simp; done) | (simp [*]; done)), H', ⟨by first | omega | exact Nat.le_refl _⟩, ⟨by (with_reducible repeat (first | refine blk_drewN ?_ _ | refine blk_drew ?_ | refine blk_alloc ?_ _)); exact BK150.out⟩, ⟨by repeat (first | (with_reducible first | exact HB.out | apply below_alloc | apply pw_below_drewN | apply below_drew1 | refine below_set ?_ GE150.out) | exact HB.out)⟩⟩
            · rw [if_neg c12] at H
              have c12b0 : ((a0_3.size : Int) == 16) = false := beq_eq_false_iff_ne.mpr c12
              have c12b1 : ((a0_3.size : Int) != 16) = true := bne_iff_ne.mpr c12
              (first | rw [c12b0] | (simp only [i64_w, i32_w]; rw [c12b0]) | skip)
              have H' := Aside0.mk H
              clear H
              have hcz17_0 : w3.cell? ⟨gb150, 0, none⟩ = some (.int .i64 a0_0) := (blk_cell BK150.out 0).trans rfl
              have hcz17_1 : w3.cell? ⟨gb150, 1, none⟩ = some (.int .i64 a0_1) := (blk_cell BK150.out 1).trans rfl
              have hcz17_2 : w3.cell? ⟨gb150, 2, none⟩ = some (.int .i64 a0_2) := (blk_cell BK150.out 2).trans rfl
              have hcz17_3 : w3.cell? ⟨gb150, 3, none⟩ = some (.string a0_3) := (blk_cell BK150.out 3).trans rfl
              have hcz17_4 : w3.cell? ⟨gb150, 4, none⟩ = some (.string a0_4) := (blk_cell BK150.out 4).trans rfl
              have hcz17_5 : w3.cell? ⟨gb150, 5, none⟩ = some (.slice A0_5 l0_5.length c0_5) := (blk_cell BK150.out 5).trans rfl
              have hcz17_6 : w3.cell? ⟨gb150, 6, none⟩ = some (.int .i64 a0_6) := (blk_cell BK150.out 6).trans rfl
              have hcz17_7 : w3.cell? ⟨gb150, 7, none⟩ = some (.slice A0_7 l0_7.length c0_7) := (blk_cell BK150.out 7).trans rfl
              have hfz17_0 := blk_frozen BK150.out 0
              have hfz17_1 := blk_frozen BK150.out 1
              have hfz17_2 := blk_frozen BK150.out 2
              have hfz17_3 := blk_frozen BK150.out 3
              have hfz17_4 := blk_frozen BK150.out 4
              have hfz17_5 := blk_frozen BK150.out 5
              have hfz17_6 := blk_frozen BK150.out 6
              have hfz17_7 := blk_frozen BK150.out 7
              go_wp2_with (first | ((with_reducible refine gate_callee (f := 25) rfl ?_); refine goesL_ (some 6) rfl rfl Try.func25 (by kernel_rfl) rfl #[.int .i64 a0_0, .int .i64 255] rfl (by (try simp only [List.map_toArray, List.map_cons, List.map_nil]); first | done | rfl | (simp only [List.length_drop, List.length_take]; rfl)) ?_; (with_reducible refine (redoubtref04_in.calls a0_0 255 true _ A4.out).mono ?_); rintro e w' ⟨rfl, ⟨nd, rfl⟩⟩; refine ⟨_, rfl, ?_⟩) | (go_at_call 25; (with_reducible refine (redoubtref04_in.calls a0_2 255 true _ A6.out).mono ?_); rintro e w' ⟨rfl, ⟨nd, rfl⟩⟩) | (go_at_call 25; (with_reducible refine (redoubtref04_in.calls a0_6 255 true _ A8.out).mono ?_); rintro e w' ⟨rfl, ⟨nd, rfl⟩⟩) | (go_at_call 25; (with_reducible refine (redoubtref04_in.calls a0_1 1048575 true _ A10.out).mono ?_); rintro e w' ⟨rfl, ⟨nd, rfl⟩⟩))
              go_meet
              case rel => exact ⟨_, (true), (by first | rfl | (simp; done) | (simp [*]; done)), H', ⟨by first | omega | exact Nat.le_refl _⟩, ⟨by (with_reducible repeat (first | refine blk_drewN ?_ _ | refine blk_drew ?_ | refine blk_alloc ?_ _)); exact BK150.out⟩, ⟨by repeat (first | (with_reducible first | exact HB.out | apply below_alloc | apply pw_below_drewN | apply below_drew1 | refine below_set ?_ GE150.out) | exact HB.out)⟩⟩
          · replace c11 := Bool.eq_false_iff.mpr c11
            subst c11
            have H1 : (redoubtref04_Check.j0 k true a0_0 a0_1 a0_2 a0_3 a0_4 l0_5 a0_6 l0_7) = some r := by rw [if_neg (show ¬ (false = true) by decide)] at H; exact H
            clear H
            have H := H1
            clear H1
            have H' := Aside0.mk H
            clear H
            have hcz18_0 : w3.cell? ⟨gb150, 0, none⟩ = some (.int .i64 a0_0) := (blk_cell BK150.out 0).trans rfl
            have hcz18_1 : w3.cell? ⟨gb150, 1, none⟩ = some (.int .i64 a0_1) := (blk_cell BK150.out 1).trans rfl
            have hcz18_2 : w3.cell? ⟨gb150, 2, none⟩ = some (.int .i64 a0_2) := (blk_cell BK150.out 2).trans rfl
            have hcz18_3 : w3.cell? ⟨gb150, 3, none⟩ = some (.string a0_3) := (blk_cell BK150.out 3).trans rfl
            have hcz18_4 : w3.cell? ⟨gb150, 4, none⟩ = some (.string a0_4) := (blk_cell BK150.out 4).trans rfl
            have hcz18_5 : w3.cell? ⟨gb150, 5, none⟩ = some (.slice A0_5 l0_5.length c0_5) := (blk_cell BK150.out 5).trans rfl
            have hcz18_6 : w3.cell? ⟨gb150, 6, none⟩ = some (.int .i64 a0_6) := (blk_cell BK150.out 6).trans rfl
            have hcz18_7 : w3.cell? ⟨gb150, 7, none⟩ = some (.slice A0_7 l0_7.length c0_7) := (blk_cell BK150.out 7).trans rfl
            have hfz18_0 := blk_frozen BK150.out 0
            have hfz18_1 := blk_frozen BK150.out 1
            have hfz18_2 := blk_frozen BK150.out 2
            have hfz18_3 := blk_frozen BK150.out 3
            have hfz18_4 := blk_frozen BK150.out 4
            have hfz18_5 := blk_frozen BK150.out 5
            have hfz18_6 := blk_frozen BK150.out 6
            have hfz18_7 := blk_frozen BK150.out 7
            go_wp2_with (first | ((with_reducible refine gate_callee (f := 25) rfl ?_); refine goesL_ (some 6) rfl rfl Try.func25 (by kernel_rfl) rfl #[.int .i64 a0_0, .int .i64 255] rfl (by (try simp only [List.map_toArray, List.map_cons, List.map_nil]); first | done | rfl | (simp only [List.length_drop, List.length_take]; rfl)) ?_; (with_reducible refine (redoubtref04_in.calls a0_0 255 true _ A4.out).mono ?_); rintro e w' ⟨rfl, ⟨nd, rfl⟩⟩; refine ⟨_, rfl, ?_⟩) | (go_at_call 25; (with_reducible refine (redoubtref04_in.calls a0_2 255 true _ A6.out).mono ?_); rintro e w' ⟨rfl, ⟨nd, rfl⟩⟩) | (go_at_call 25; (with_reducible refine (redoubtref04_in.calls a0_6 255 true _ A8.out).mono ?_); rintro e w' ⟨rfl, ⟨nd, rfl⟩⟩) | (go_at_call 25; (with_reducible refine (redoubtref04_in.calls a0_1 1048575 false _ A10.out).mono ?_); rintro e w' ⟨rfl, ⟨nd, rfl⟩⟩))
            go_meet
            case rel => exact ⟨_, (true), (by first | rfl | (simp; done) | (simp [*]; done)), H', ⟨by first | omega | exact Nat.le_refl _⟩, ⟨by (with_reducible repeat (first | refine blk_drewN ?_ _ | refine blk_drew ?_ | refine blk_alloc ?_ _)); exact BK150.out⟩, ⟨by repeat (first | (with_reducible first | exact HB.out | apply below_alloc | apply pw_below_drewN | apply below_drew1 | refine below_set ?_ GE150.out) | exact HB.out)⟩⟩
        · replace c9 := Bool.eq_false_iff.mpr c9
          subst c9
          have H1 : (redoubtref04_Check.j0 k true a0_0 a0_1 a0_2 a0_3 a0_4 l0_5 a0_6 l0_7) = some r := by rw [if_neg (show ¬ (false = true) by decide)] at H; exact H
          clear H
          have H := H1
          clear H1
          have H' := Aside0.mk H
          clear H
          have hcz19_0 : w3.cell? ⟨gb150, 0, none⟩ = some (.int .i64 a0_0) := (blk_cell BK150.out 0).trans rfl
          have hcz19_1 : w3.cell? ⟨gb150, 1, none⟩ = some (.int .i64 a0_1) := (blk_cell BK150.out 1).trans rfl
          have hcz19_2 : w3.cell? ⟨gb150, 2, none⟩ = some (.int .i64 a0_2) := (blk_cell BK150.out 2).trans rfl
          have hcz19_3 : w3.cell? ⟨gb150, 3, none⟩ = some (.string a0_3) := (blk_cell BK150.out 3).trans rfl
          have hcz19_4 : w3.cell? ⟨gb150, 4, none⟩ = some (.string a0_4) := (blk_cell BK150.out 4).trans rfl
          have hcz19_5 : w3.cell? ⟨gb150, 5, none⟩ = some (.slice A0_5 l0_5.length c0_5) := (blk_cell BK150.out 5).trans rfl
          have hcz19_6 : w3.cell? ⟨gb150, 6, none⟩ = some (.int .i64 a0_6) := (blk_cell BK150.out 6).trans rfl
          have hcz19_7 : w3.cell? ⟨gb150, 7, none⟩ = some (.slice A0_7 l0_7.length c0_7) := (blk_cell BK150.out 7).trans rfl
          have hfz19_0 := blk_frozen BK150.out 0
          have hfz19_1 := blk_frozen BK150.out 1
          have hfz19_2 := blk_frozen BK150.out 2
          have hfz19_3 := blk_frozen BK150.out 3
          have hfz19_4 := blk_frozen BK150.out 4
          have hfz19_5 := blk_frozen BK150.out 5
          have hfz19_6 := blk_frozen BK150.out 6
          have hfz19_7 := blk_frozen BK150.out 7
          go_wp2_with (first | ((with_reducible refine gate_callee (f := 25) rfl ?_); refine goesL_ (some 6) rfl rfl Try.func25 (by kernel_rfl) rfl #[.int .i64 a0_0, .int .i64 255] rfl (by (try simp only [List.map_toArray, List.map_cons, List.map_nil]); first | done | rfl | (simp only [List.length_drop, List.length_take]; rfl)) ?_; (with_reducible refine (redoubtref04_in.calls a0_0 255 true _ A4.out).mono ?_); rintro e w' ⟨rfl, ⟨nd, rfl⟩⟩; refine ⟨_, rfl, ?_⟩) | (go_at_call 25; (with_reducible refine (redoubtref04_in.calls a0_2 255 true _ A6.out).mono ?_); rintro e w' ⟨rfl, ⟨nd, rfl⟩⟩) | (go_at_call 25; (with_reducible refine (redoubtref04_in.calls a0_6 255 false _ A8.out).mono ?_); rintro e w' ⟨rfl, ⟨nd, rfl⟩⟩))
          go_meet
          case rel => exact ⟨_, (true), (by first | rfl | (simp; done) | (simp [*]; done)), H', ⟨by first | omega | exact Nat.le_refl _⟩, ⟨by (with_reducible repeat (first | refine blk_drewN ?_ _ | refine blk_drew ?_ | refine blk_alloc ?_ _)); exact BK150.out⟩, ⟨by repeat (first | (with_reducible first | exact HB.out | apply below_alloc | apply pw_below_drewN | apply below_drew1 | refine below_set ?_ GE150.out) | exact HB.out)⟩⟩
      · replace c7 := Bool.eq_false_iff.mpr c7
        subst c7
        have H1 : (redoubtref04_Check.j0 k true a0_0 a0_1 a0_2 a0_3 a0_4 l0_5 a0_6 l0_7) = some r := by rw [if_neg (show ¬ (false = true) by decide)] at H; exact H
        clear H
        have H := H1
        clear H1
        have H' := Aside0.mk H
        clear H
        have hcz20_0 : w3.cell? ⟨gb150, 0, none⟩ = some (.int .i64 a0_0) := (blk_cell BK150.out 0).trans rfl
        have hcz20_1 : w3.cell? ⟨gb150, 1, none⟩ = some (.int .i64 a0_1) := (blk_cell BK150.out 1).trans rfl
        have hcz20_2 : w3.cell? ⟨gb150, 2, none⟩ = some (.int .i64 a0_2) := (blk_cell BK150.out 2).trans rfl
        have hcz20_3 : w3.cell? ⟨gb150, 3, none⟩ = some (.string a0_3) := (blk_cell BK150.out 3).trans rfl
        have hcz20_4 : w3.cell? ⟨gb150, 4, none⟩ = some (.string a0_4) := (blk_cell BK150.out 4).trans rfl
        have hcz20_5 : w3.cell? ⟨gb150, 5, none⟩ = some (.slice A0_5 l0_5.length c0_5) := (blk_cell BK150.out 5).trans rfl
        have hcz20_6 : w3.cell? ⟨gb150, 6, none⟩ = some (.int .i64 a0_6) := (blk_cell BK150.out 6).trans rfl
        have hcz20_7 : w3.cell? ⟨gb150, 7, none⟩ = some (.slice A0_7 l0_7.length c0_7) := (blk_cell BK150.out 7).trans rfl
        have hfz20_0 := blk_frozen BK150.out 0
        have hfz20_1 := blk_frozen BK150.out 1
        have hfz20_2 := blk_frozen BK150.out 2
        have hfz20_3 := blk_frozen BK150.out 3
        have hfz20_4 := blk_frozen BK150.out 4
        have hfz20_5 := blk_frozen BK150.out 5
        have hfz20_6 := blk_frozen BK150.out 6
        have hfz20_7 := blk_frozen BK150.out 7
        go_wp2_with (first | ((with_reducible refine gate_callee (f := 25) rfl ?_); refine goesL_ (some 6) rfl rfl Try.func25 (by kernel_rfl) rfl #[.int .i64 a0_0, .int .i64 255] rfl (by (try simp only [List.map_toArray, List.map_cons, List.map_nil]); first | done | rfl | (simp only [List.length_drop, List.length_take]; rfl)) ?_; (with_reducible refine (redoubtref04_in.calls a0_0 255 true _ A4.out).mono ?_); rintro e w' ⟨rfl, ⟨nd, rfl⟩⟩; refine ⟨_, rfl, ?_⟩) | (go_at_call 25; (with_reducible refine (redoubtref04_in.calls a0_2 255 false _ A6.out).mono ?_); rintro e w' ⟨rfl, ⟨nd, rfl⟩⟩))
        go_meet
        case rel => exact ⟨_, (true), (by first | rfl | (simp; done) | (simp [*]; done)), H', ⟨by first | omega | exact Nat.le_refl _⟩, ⟨by (with_reducible repeat (first | refine blk_drewN ?_ _ | refine blk_drew ?_ | refine blk_alloc ?_ _)); exact BK150.out⟩, ⟨by repeat (first | (with_reducible first | exact HB.out | apply below_alloc | apply pw_below_drewN | apply below_drew1 | refine below_set ?_ GE150.out) | exact HB.out)⟩⟩
    · replace c5 := Bool.eq_false_iff.mpr c5
      subst c5
      have H1 : (redoubtref04_Check.j0 k true a0_0 a0_1 a0_2 a0_3 a0_4 l0_5 a0_6 l0_7) = some r := by rw [if_neg (show ¬ (false = true) by decide)] at H; exact H
      clear H
      have H := H1
      clear H1
      have H' := Aside0.mk H
      clear H
      have hcz21_0 : w3.cell? ⟨gb150, 0, none⟩ = some (.int .i64 a0_0) := (blk_cell BK150.out 0).trans rfl
      have hcz21_1 : w3.cell? ⟨gb150, 1, none⟩ = some (.int .i64 a0_1) := (blk_cell BK150.out 1).trans rfl
      have hcz21_2 : w3.cell? ⟨gb150, 2, none⟩ = some (.int .i64 a0_2) := (blk_cell BK150.out 2).trans rfl
      have hcz21_3 : w3.cell? ⟨gb150, 3, none⟩ = some (.string a0_3) := (blk_cell BK150.out 3).trans rfl
      have hcz21_4 : w3.cell? ⟨gb150, 4, none⟩ = some (.string a0_4) := (blk_cell BK150.out 4).trans rfl
      have hcz21_5 : w3.cell? ⟨gb150, 5, none⟩ = some (.slice A0_5 l0_5.length c0_5) := (blk_cell BK150.out 5).trans rfl
      have hcz21_6 : w3.cell? ⟨gb150, 6, none⟩ = some (.int .i64 a0_6) := (blk_cell BK150.out 6).trans rfl
      have hcz21_7 : w3.cell? ⟨gb150, 7, none⟩ = some (.slice A0_7 l0_7.length c0_7) := (blk_cell BK150.out 7).trans rfl
      have hfz21_0 := blk_frozen BK150.out 0
      have hfz21_1 := blk_frozen BK150.out 1
      have hfz21_2 := blk_frozen BK150.out 2
      have hfz21_3 := blk_frozen BK150.out 3
      have hfz21_4 := blk_frozen BK150.out 4
      have hfz21_5 := blk_frozen BK150.out 5
      have hfz21_6 := blk_frozen BK150.out 6
      have hfz21_7 := blk_frozen BK150.out 7
      go_wp2_with (first | ((with_reducible refine gate_callee (f := 25) rfl ?_); refine goesL_ (some 6) rfl rfl Try.func25 (by kernel_rfl) rfl #[.int .i64 a0_0, .int .i64 255] rfl (by (try simp only [List.map_toArray, List.map_cons, List.map_nil]); first | done | rfl | (simp only [List.length_drop, List.length_take]; rfl)) ?_; (with_reducible refine (redoubtref04_in.calls a0_0 255 false _ A4.out).mono ?_); rintro e w' ⟨rfl, ⟨nd, rfl⟩⟩; refine ⟨_, rfl, ?_⟩))
      go_meet
      case rel => exact ⟨_, (true), (by first | rfl | (simp; done) | (simp [*]; done)), H', ⟨by first | omega | exact Nat.le_refl _⟩, ⟨by (with_reducible repeat (first | refine blk_drewN ?_ _ | refine blk_drew ?_ | refine blk_alloc ?_ _)); exact BK150.out⟩, ⟨by repeat (first | (with_reducible first | exact HB.out | apply below_alloc | apply pw_below_drewN | apply below_drew1 | refine below_set ?_ GE150.out) | exact HB.out)⟩⟩
  case rest =>
    clear HC2
    try clear c1
    try clear c2
    try clear p2
    try clear c5
    try clear c7
    try clear c9
    try clear c11
    try clear c12
    try clear c12b0
    try clear c12b1
    try clear c13
    try clear c13b0
    try clear c13b1
    try clear c15
    try clear hcz15_0
    try clear hcz15_1
    try clear hcz15_2
    try clear hcz15_3
    try clear hcz15_4
    try clear hcz15_5
    try clear hcz15_6
    try clear hcz15_7
    try clear hcz16_0
    try clear hcz16_1
    try clear hcz16_2
    try clear hcz16_3
    try clear hcz16_4
    try clear hcz16_5
    try clear hcz16_6
    try clear hcz16_7
    try clear hcz17_0
    try clear hcz17_1
    try clear hcz17_2
    try clear hcz17_3
    try clear hcz17_4
    try clear hcz17_5
    try clear hcz17_6
    try clear hcz17_7
    try clear hcz18_0
    try clear hcz18_1
    try clear hcz18_2
    try clear hcz18_3
    try clear hcz18_4
    try clear hcz18_5
    try clear hcz18_6
    try clear hcz18_7
    try clear hcz19_0
    try clear hcz19_1
    try clear hcz19_2
    try clear hcz19_3
    try clear hcz19_4
    try clear hcz19_5
    try clear hcz19_6
    try clear hcz19_7
    try clear hcz20_0
    try clear hcz20_1
    try clear hcz20_2
    try clear hcz20_3
    try clear hcz20_4
    try clear hcz20_5
    try clear hcz20_6
    try clear hcz20_7
    try clear hcz21_0
    try clear hcz21_1
    try clear hcz21_2
    try clear hcz21_3
    try clear hcz21_4
    try clear hcz21_5
    try clear hcz21_6
    try clear hcz21_7
    try clear hfz15_0
    try clear hfz15_1
    try clear hfz15_2
    try clear hfz15_3
    try clear hfz15_4
    try clear hfz15_5
    try clear hfz15_6
    try clear hfz15_7
    try clear hfz16_0
    try clear hfz16_1
    try clear hfz16_2
    try clear hfz16_3
    try clear hfz16_4
    try clear hfz16_5
    try clear hfz16_6
    try clear hfz16_7
    try clear hfz17_0
    try clear hfz17_1
    try clear hfz17_2
    try clear hfz17_3
    try clear hfz17_4
    try clear hfz17_5
    try clear hfz17_6
    try clear hfz17_7
    try clear hfz18_0
    try clear hfz18_1
    try clear hfz18_2
    try clear hfz18_3
    try clear hfz18_4
    try clear hfz18_5
    try clear hfz18_6
    try clear hfz18_7
    try clear hfz19_0
    try clear hfz19_1
    try clear hfz19_2
    try clear hfz19_3
    try clear hfz19_4
    try clear hfz19_5
    try clear hfz19_6
    try clear hfz19_7
    try clear hfz20_0
    try clear hfz20_1
    try clear hfz20_2
    try clear hfz20_3
    try clear hfz20_4
    try clear hfz20_5
    try clear hfz20_6
    try clear hfz20_7
    try clear hfz21_0
    try clear hfz21_1
    try clear hfz21_2
    try clear hfz21_3
    try clear hfz21_4
    try clear hfz21_5
    try clear hfz21_6
    try clear hfz21_7
    obtain ⟨kq, x42_1, rfl, HA, HJ1, BK150, HB⟩ := hcut
    cases kq with
    | zero => exact absurd HA.out (by simp [redoubtref04_Check.j0])
    | succ kj1 =>
      have H := HA.out
      clear HA
      simp only [redoubtref04_Check.j0] at H
      by_cases c22 : x42_1 = true
      · subst c22
        have H1 : (some 1) = some r := by rw [if_pos rfl] at H; exact H
        clear H
        have H := H1
        clear H1
        obtain rfl := Option.some.inj H
        go_wp2
        go_ret
        exact ⟨by first | rfl | (simp [errW_none, errW_some] <;> rfl) | (simp [*, errW_none, errW_some] <;> rfl), by repeat (first | (with_reducible first | exact HB.out | apply below_alloc | apply pw_below_drewN | apply below_drew1 | refine below_set ?_ GE150.out) | exact HB.out)⟩
      · replace c22 := Bool.eq_false_iff.mpr c22
        subst c22
        have H1 : (redoubtref04_Check.l0 kj1 0 a0_0 a0_1 a0_2 a0_3 a0_4 l0_5 a0_6 l0_7) = some r := by rw [if_neg (show ¬ (false = true) by decide)] at H; exact H
        clear H
        have H := H1
        clear H1
        have H' := Aside0.mk H
        clear H
        go_wp2
        go_loopg [3] kj1 (fun kq v3 w' => ∃ (x3_2 : Int), v3 = .int .i64 x3_2 ∧ Aside0 (redoubtref04_Check.l0 kq x3_2 a0_0 a0_1 a0_2 a0_3 a0_4 l0_5 a0_6 l0_7 = some r) ∧ Aside0 (kq ≤ kj1) ∧ Aside0 (w'.heap[gb150]? = some (.cells #[.int .i64 a0_0, .int .i64 a0_1, .int .i64 a0_2, .string a0_3, .string a0_4, (.slice A0_5 l0_5.length c0_5), .int .i64 a0_6, (.slice A0_7 l0_7.length c0_7)] 26 (0, 0))) ∧ Aside0 (Below w.heap.size w w'))
        case atStart => exact ⟨(0), (by first | rfl | (simp; done) | (simp [*]; done)), H', ⟨Nat.le_refl _⟩, ⟨by (with_reducible repeat (first | refine blk_drewN ?_ _ | refine blk_drew ?_ | refine blk_alloc ?_ _)); exact BK150.out⟩, ⟨by repeat (first | (with_reducible first | exact HB.out | apply below_alloc | apply pw_below_drewN | apply below_drew1 | refine below_set ?_ GE150.out) | exact HB.out)⟩⟩
        case round =>
          clear H'
          try clear c1
          try clear c2
          try clear p2
          try clear c5
          try clear c7
          try clear c9
          try clear c11
          try clear c12
          try clear c12b0
          try clear c12b1
          try clear c13
          try clear c13b0
          try clear c13b1
          try clear c15
          try clear c22
          try clear hcz15_0
          try clear hcz15_1
          try clear hcz15_2
          try clear hcz15_3
          try clear hcz15_4
          try clear hcz15_5
          try clear hcz15_6
          try clear hcz15_7
          try clear hcz16_0
          try clear hcz16_1
          try clear hcz16_2
          try clear hcz16_3
          try clear hcz16_4
          try clear hcz16_5
          try clear hcz16_6
          try clear hcz16_7
          try clear hcz17_0
          try clear hcz17_1
          try clear hcz17_2
          try clear hcz17_3
          try clear hcz17_4
          try clear hcz17_5
          try clear hcz17_6
          try clear hcz17_7
          try clear hcz18_0
          try clear hcz18_1
          try clear hcz18_2
          try clear hcz18_3
          try clear hcz18_4
          try clear hcz18_5
          try clear hcz18_6
          try clear hcz18_7
          try clear hcz19_0
          try clear hcz19_1
          try clear hcz19_2
          try clear hcz19_3
          try clear hcz19_4
          try clear hcz19_5
          try clear hcz19_6
          try clear hcz19_7
          try clear hcz20_0
          try clear hcz20_1
          try clear hcz20_2
          try clear hcz20_3
          try clear hcz20_4
          try clear hcz20_5
          try clear hcz20_6
          try clear hcz20_7
          try clear hcz21_0
          try clear hcz21_1
          try clear hcz21_2
          try clear hcz21_3
          try clear hcz21_4
          try clear hcz21_5
          try clear hcz21_6
          try clear hcz21_7
          try clear hfz15_0
          try clear hfz15_1
          try clear hfz15_2
          try clear hfz15_3
          try clear hfz15_4
          try clear hfz15_5
          try clear hfz15_6
          try clear hfz15_7
          try clear hfz16_0
          try clear hfz16_1
          try clear hfz16_2
          try clear hfz16_3
          try clear hfz16_4
          try clear hfz16_5
          try clear hfz16_6
          try clear hfz16_7
          try clear hfz17_0
          try clear hfz17_1
          try clear hfz17_2
          try clear hfz17_3
          try clear hfz17_4
          try clear hfz17_5
          try clear hfz17_6
          try clear hfz17_7
          try clear hfz18_0
          try clear hfz18_1
          try clear hfz18_2
          try clear hfz18_3
          try clear hfz18_4
          try clear hfz18_5
          try clear hfz18_6
          try clear hfz18_7
          try clear hfz19_0
          try clear hfz19_1
          try clear hfz19_2
          try clear hfz19_3
          try clear hfz19_4
          try clear hfz19_5
          try clear hfz19_6
          try clear hfz19_7
          try clear hfz20_0
          try clear hfz20_1
          try clear hfz20_2
          try clear hfz20_3
          try clear hfz20_4
          try clear hfz20_5
          try clear hfz20_6
          try clear hfz20_7
          try clear hfz21_0
          try clear hfz21_1
          try clear hfz21_2
          try clear hfz21_3
          try clear hfz21_4
          try clear hfz21_5
          try clear hfz21_6
          try clear hfz21_7
          try clear p2
          obtain ⟨x3_2, rfl, HA, HK2, BK150, HB⟩ := hrel
          cases gk with
          | zero => exact absurd HA.out (by simp [redoubtref04_Check.l0])
          | succ k2 =>
            have H := HA.out
            clear HA
            simp only [redoubtref04_Check.l0] at H
            by_cases c23 : x3_2 < (l0_5.length : Int)
            · rw [if_pos c23] at H
              have c23b0 : decide (x3_2 < (l0_5.length : Int)) = true := decide_eq_true c23
              clear c23
              by_cases c24 : 0 ≤ x3_2
              · rw [if_pos c24] at H
                have c24b0 : decide (0 ≤ x3_2) = true := decide_eq_true c24
                clear c24
                replace H := Option.bind_eq_some_iff.mp H
                obtain ⟨t157, A250, H⟩ := H
                replace H : (if t157 = true then (redoubtref04_Check.l0 k2 (wrap64 (x3_2 + 1)) a0_0 a0_1 a0_2 a0_3 a0_4 l0_5 a0_6 l0_7) else (some 1)) = some r := H
                have A25 := Aside0.mk A250
                clear A250
                by_cases c26 : t157 = true
                · subst c26
                  have H1 : (redoubtref04_Check.l0 k2 (wrap64 (x3_2 + 1)) a0_0 a0_1 a0_2 a0_3 a0_4 l0_5 a0_6 l0_7) = some r := by rw [if_pos rfl] at H; exact H
                  clear H
                  have H := H1
                  clear H1
                  have H' := Aside0.mk H
                  clear H
                  have hcz27_0 : wr.cell? ⟨gb150, 0, none⟩ = some (.int .i64 a0_0) := (blk_cell BK150.out 0).trans rfl
                  have hcz27_1 : wr.cell? ⟨gb150, 1, none⟩ = some (.int .i64 a0_1) := (blk_cell BK150.out 1).trans rfl
                  have hcz27_2 : wr.cell? ⟨gb150, 2, none⟩ = some (.int .i64 a0_2) := (blk_cell BK150.out 2).trans rfl
                  have hcz27_3 : wr.cell? ⟨gb150, 3, none⟩ = some (.string a0_3) := (blk_cell BK150.out 3).trans rfl
                  have hcz27_4 : wr.cell? ⟨gb150, 4, none⟩ = some (.string a0_4) := (blk_cell BK150.out 4).trans rfl
                  have hcz27_5 : wr.cell? ⟨gb150, 5, none⟩ = some (.slice A0_5 l0_5.length c0_5) := (blk_cell BK150.out 5).trans rfl
                  have hcz27_6 : wr.cell? ⟨gb150, 6, none⟩ = some (.int .i64 a0_6) := (blk_cell BK150.out 6).trans rfl
                  have hcz27_7 : wr.cell? ⟨gb150, 7, none⟩ = some (.slice A0_7 l0_7.length c0_7) := (blk_cell BK150.out 7).trans rfl
                  have hfz27_0 := blk_frozen BK150.out 0
                  have hfz27_1 := blk_frozen BK150.out 1
                  have hfz27_2 := blk_frozen BK150.out 2
                  have hfz27_3 := blk_frozen BK150.out 3
                  have hfz27_4 := blk_frozen BK150.out 4
                  have hfz27_5 := blk_frozen BK150.out 5
                  have hfz27_6 := blk_frozen BK150.out 6
                  have hfz27_7 := blk_frozen BK150.out 7
                  have p156 : 0 ≤ (x3_2 : Int) := of_decide_eq_true (by first | (with_reducible assumption) | assumption)
                  have q156 : x3_2 < (l0_5.length : Int) := of_decide_eq_true (by first | (with_reducible assumption) | assumption)
                  obtain ⟨ad156, e156, hx156_0, hx156_1⟩ := at_T43 HR0_5.out x3_2 p156 q156
                  cases e156
                  replace hx156_0 := (HB.out.cell (World.block_lt_of_cell? w _ hx156_0)).trans hx156_0
                  replace hx156_1 := (HB.out.cell (World.block_lt_of_cell? w _ hx156_1)).trans hx156_1
                  replace p156 := eq_true p156
                  replace q156 := eq_true q156
                  go_wp2_with (first | ((with_reducible refine gate_callee (f := 26) rfl ?_); refine goesL_ (some 56) rfl rfl Try.func26 (by kernel_rfl) rfl #[.agg #[.int .i64 ((rd_T43 l0_5 x3_2).f0), .string ((rd_T43 l0_5 x3_2).f1)], .int .i64 x3_2] rfl (by (try simp only [List.map_toArray, List.map_cons, List.map_nil]); first | done | rfl | (simp only [List.length_drop, List.length_take]; rfl)) ?_; (with_reducible refine (redoubtref04_ext.calls k2 ((rd_T43 l0_5 x3_2).f0) ((rd_T43 l0_5 x3_2).f1) x3_2 true _ A25.out).mono ?_); rintro e w28 ⟨rfl, hb⟩; refine ⟨_, rfl, ?_⟩; have n0_ := Aside0.mk (blk_below (g := gb150) (o := .cells #[.int .i64 a0_0, .int .i64 a0_1, .int .i64 a0_2, .string a0_3, .string a0_4, .slice (some ad156) l0_5.length c0_5, .int .i64 a0_6, .slice A0_7 l0_7.length c0_7] 26 (0, 0)) (by (with_reducible repeat (first | refine blk_drewN ?_ _ | refine blk_drew ?_ | refine blk_alloc ?_ _)); exact BK150.out) hb); have n1_ := Aside0.mk (below_step (by repeat (first | (with_reducible first | exact HB.out | apply below_alloc | apply pw_below_drewN | apply below_drew1 | refine below_set ?_ GE150.out) | exact HB.out)) hb); clear BK150; clear HB; have BK150 := n0_; have HB := n1_; clear n0_ n1_; (try clear hb); (try clear hb2); (try clear hk); (try clear hi)))
                  go_roundg k2
                  case measure => have := HJ1.out; have := HK2.out; omega
                  case rel => exact ⟨(wrap64 (x3_2 + 1)), (by first | rfl | (simp; done) | (simp [*]; done)), H', ⟨by have := HJ1.out; have := HK2.out; omega⟩, ⟨by (with_reducible repeat (first | refine blk_drewN ?_ _ | refine blk_drew ?_ | refine blk_alloc ?_ _)); exact BK150.out⟩, ⟨by repeat (first | (with_reducible first | exact HB.out | apply below_alloc | apply pw_below_drewN | apply below_drew1 | refine below_set ?_ GE150.out) | exact HB.out)⟩⟩
                · replace c26 := Bool.eq_false_iff.mpr c26
                  subst c26
                  have H1 : (some 1) = some r := by rw [if_neg (show ¬ (false = true) by decide)] at H; exact H
                  clear H
                  have H := H1
                  clear H1
                  obtain rfl := Option.some.inj H
                  have hcz29_0 : wr.cell? ⟨gb150, 0, none⟩ = some (.int .i64 a0_0) := (blk_cell BK150.out 0).trans rfl
                  have hcz29_1 : wr.cell? ⟨gb150, 1, none⟩ = some (.int .i64 a0_1) := (blk_cell BK150.out 1).trans rfl
                  have hcz29_2 : wr.cell? ⟨gb150, 2, none⟩ = some (.int .i64 a0_2) := (blk_cell BK150.out 2).trans rfl
                  have hcz29_3 : wr.cell? ⟨gb150, 3, none⟩ = some (.string a0_3) := (blk_cell BK150.out 3).trans rfl
                  have hcz29_4 : wr.cell? ⟨gb150, 4, none⟩ = some (.string a0_4) := (blk_cell BK150.out 4).trans rfl
                  have hcz29_5 : wr.cell? ⟨gb150, 5, none⟩ = some (.slice A0_5 l0_5.length c0_5) := (blk_cell BK150.out 5).trans rfl
                  have hcz29_6 : wr.cell? ⟨gb150, 6, none⟩ = some (.int .i64 a0_6) := (blk_cell BK150.out 6).trans rfl
                  have hcz29_7 : wr.cell? ⟨gb150, 7, none⟩ = some (.slice A0_7 l0_7.length c0_7) := (blk_cell BK150.out 7).trans rfl
                  have hfz29_0 := blk_frozen BK150.out 0
                  have hfz29_1 := blk_frozen BK150.out 1
                  have hfz29_2 := blk_frozen BK150.out 2
                  have hfz29_3 := blk_frozen BK150.out 3
                  have hfz29_4 := blk_frozen BK150.out 4
                  have hfz29_5 := blk_frozen BK150.out 5
                  have hfz29_6 := blk_frozen BK150.out 6
                  have hfz29_7 := blk_frozen BK150.out 7
                  have p156 : 0 ≤ (x3_2 : Int) := of_decide_eq_true (by first | (with_reducible assumption) | assumption)
                  have q156 : x3_2 < (l0_5.length : Int) := of_decide_eq_true (by first | (with_reducible assumption) | assumption)
                  obtain ⟨ad156, e156, hx156_0, hx156_1⟩ := at_T43 HR0_5.out x3_2 p156 q156
                  cases e156
                  replace hx156_0 := (HB.out.cell (World.block_lt_of_cell? w _ hx156_0)).trans hx156_0
                  replace hx156_1 := (HB.out.cell (World.block_lt_of_cell? w _ hx156_1)).trans hx156_1
                  replace p156 := eq_true p156
                  replace q156 := eq_true q156
                  go_wp2_with (first | ((with_reducible refine gate_callee (f := 26) rfl ?_); refine goesL_ (some 56) rfl rfl Try.func26 (by kernel_rfl) rfl #[.agg #[.int .i64 ((rd_T43 l0_5 x3_2).f0), .string ((rd_T43 l0_5 x3_2).f1)], .int .i64 x3_2] rfl (by (try simp only [List.map_toArray, List.map_cons, List.map_nil]); first | done | rfl | (simp only [List.length_drop, List.length_take]; rfl)) ?_; (with_reducible refine (redoubtref04_ext.calls k2 ((rd_T43 l0_5 x3_2).f0) ((rd_T43 l0_5 x3_2).f1) x3_2 false _ A25.out).mono ?_); rintro e w30 ⟨rfl, hb⟩; refine ⟨_, rfl, ?_⟩; have n0_ := Aside0.mk (blk_below (g := gb150) (o := .cells #[.int .i64 a0_0, .int .i64 a0_1, .int .i64 a0_2, .string a0_3, .string a0_4, .slice (some ad156) l0_5.length c0_5, .int .i64 a0_6, .slice A0_7 l0_7.length c0_7] 26 (0, 0)) (by (with_reducible repeat (first | refine blk_drewN ?_ _ | refine blk_drew ?_ | refine blk_alloc ?_ _)); exact BK150.out) hb); have n1_ := Aside0.mk (below_step (by repeat (first | (with_reducible first | exact HB.out | apply below_alloc | apply pw_below_drewN | apply below_drew1 | refine below_set ?_ GE150.out) | exact HB.out)) hb); clear BK150; clear HB; have BK150 := n0_; have HB := n1_; clear n0_ n1_; (try clear hb); (try clear hb2); (try clear hk); (try clear hi)))
                  go_ret
                  exact ⟨by first | rfl | (simp [errW_none, errW_some] <;> rfl) | (simp [*, errW_none, errW_some] <;> rfl), by repeat (first | (with_reducible first | exact HB.out | apply below_alloc | apply pw_below_drewN | apply below_drew1 | refine below_set ?_ GE150.out) | exact HB.out)⟩
              · rw [if_neg c24] at H
                exact absurd H (by simp)
            · rw [if_neg c23] at H
              have c23b0 : decide (x3_2 < (l0_5.length : Int)) = false := decide_eq_false c23
              clear c23
              replace H := Option.bind_eq_some_iff.mp H
              obtain ⟨t158, A310, H⟩ := H
              replace H : (if t158 > 65535 then (some 2) else (some 0)) = some r := H
              have A31 := Aside0.mk A310
              clear A310
              by_cases c32 : t158 > 65535
              · rw [if_pos c32] at H
                have c32b0 : decide (65535 < t158) = true := decide_eq_true c32
                clear c32
                obtain rfl := Option.some.inj H
                have hcz33_0 : wr.cell? ⟨gb150, 0, none⟩ = some (.int .i64 a0_0) := (blk_cell BK150.out 0).trans rfl
                have hcz33_1 : wr.cell? ⟨gb150, 1, none⟩ = some (.int .i64 a0_1) := (blk_cell BK150.out 1).trans rfl
                have hcz33_2 : wr.cell? ⟨gb150, 2, none⟩ = some (.int .i64 a0_2) := (blk_cell BK150.out 2).trans rfl
                have hcz33_3 : wr.cell? ⟨gb150, 3, none⟩ = some (.string a0_3) := (blk_cell BK150.out 3).trans rfl
                have hcz33_4 : wr.cell? ⟨gb150, 4, none⟩ = some (.string a0_4) := (blk_cell BK150.out 4).trans rfl
                have hcz33_5 : wr.cell? ⟨gb150, 5, none⟩ = some (.slice A0_5 l0_5.length c0_5) := (blk_cell BK150.out 5).trans rfl
                have hcz33_6 : wr.cell? ⟨gb150, 6, none⟩ = some (.int .i64 a0_6) := (blk_cell BK150.out 6).trans rfl
                have hcz33_7 : wr.cell? ⟨gb150, 7, none⟩ = some (.slice A0_7 l0_7.length c0_7) := (blk_cell BK150.out 7).trans rfl
                have hfz33_0 := blk_frozen BK150.out 0
                have hfz33_1 := blk_frozen BK150.out 1
                have hfz33_2 := blk_frozen BK150.out 2
                have hfz33_3 := blk_frozen BK150.out 3
                have hfz33_4 := blk_frozen BK150.out 4
                have hfz33_5 := blk_frozen BK150.out 5
                have hfz33_6 := blk_frozen BK150.out 6
                have hfz33_7 := blk_frozen BK150.out 7
                go_wp2_with (first | ((with_reducible refine gate_callee (f := 27) rfl ?_); refine goesL_ (some 59) rfl rfl Try.func27 (by kernel_rfl) rfl #[.agg #[.int .i64 a0_0, .int .i64 a0_1, .int .i64 a0_2, .string a0_3, .string a0_4, .slice A0_5 l0_5.length c0_5, .int .i64 a0_6, .slice A0_7 l0_7.length c0_7]] rfl (by (try simp only [List.map_toArray, List.map_cons, List.map_nil]); first | done | rfl | (simp only [List.length_drop, List.length_take]; rfl)) ?_; (with_reducible refine (redoubtref04_size.calls k2 a0_0 a0_1 a0_2 a0_3 a0_4 _ _ l0_5 a0_6 _ _ l0_7 t158 _ ?side1 ?side2 ?side3 ?side4 A31.out).mono ?_); (case side1 => repeat (first | exact (Kd.C_below HR0_5.out HB.out) | (with_reducible refine Kd.C_alloc ?_ _) | (with_reducible refine Kd.C_drewN ?_ _) | (with_reducible refine Kd.C_drew ?_))); (case side2 => exact HC0_5.out); (case side3 => repeat (first | exact (Kd.C_below HR0_7.out HB.out) | (with_reducible refine Kd.C_alloc ?_ _) | (with_reducible refine Kd.C_drewN ?_ _) | (with_reducible refine Kd.C_drew ?_))); (case side4 => exact HC0_7.out); rintro e w34 ⟨rfl, hb⟩; refine ⟨_, rfl, ?_⟩; have n0_ := Aside0.mk (blk_below (g := gb150) (o := .cells #[.int .i64 a0_0, .int .i64 a0_1, .int .i64 a0_2, .string a0_3, .string a0_4, .slice A0_5 l0_5.length c0_5, .int .i64 a0_6, .slice A0_7 l0_7.length c0_7] 26 (0, 0)) (by (with_reducible repeat (first | refine blk_drewN ?_ _ | refine blk_drew ?_ | refine blk_alloc ?_ _)); exact BK150.out) hb); have n1_ := Aside0.mk (below_step (by repeat (first | (with_reducible first | exact HB.out | apply below_alloc | apply pw_below_drewN | apply below_drew1 | refine below_set ?_ GE150.out) | exact HB.out)) hb); clear BK150; clear HB; have BK150 := n0_; have HB := n1_; clear n0_ n1_; (try clear hb); (try clear hb2); (try clear hk); (try clear hi)))
                go_ret
                exact ⟨by first | rfl | (simp [errW_none, errW_some] <;> rfl) | (simp [*, errW_none, errW_some] <;> rfl), by repeat (first | (with_reducible first | exact HB.out | apply below_alloc | apply pw_below_drewN | apply below_drew1 | refine below_set ?_ GE150.out) | exact HB.out)⟩
              · rw [if_neg c32] at H
                have c32b0 : decide (65535 < t158) = false := decide_eq_false c32
                clear c32
                obtain rfl := Option.some.inj H
                have hcz35_0 : wr.cell? ⟨gb150, 0, none⟩ = some (.int .i64 a0_0) := (blk_cell BK150.out 0).trans rfl
                have hcz35_1 : wr.cell? ⟨gb150, 1, none⟩ = some (.int .i64 a0_1) := (blk_cell BK150.out 1).trans rfl
                have hcz35_2 : wr.cell? ⟨gb150, 2, none⟩ = some (.int .i64 a0_2) := (blk_cell BK150.out 2).trans rfl
                have hcz35_3 : wr.cell? ⟨gb150, 3, none⟩ = some (.string a0_3) := (blk_cell BK150.out 3).trans rfl
                have hcz35_4 : wr.cell? ⟨gb150, 4, none⟩ = some (.string a0_4) := (blk_cell BK150.out 4).trans rfl
                have hcz35_5 : wr.cell? ⟨gb150, 5, none⟩ = some (.slice A0_5 l0_5.length c0_5) := (blk_cell BK150.out 5).trans rfl
                have hcz35_6 : wr.cell? ⟨gb150, 6, none⟩ = some (.int .i64 a0_6) := (blk_cell BK150.out 6).trans rfl
                have hcz35_7 : wr.cell? ⟨gb150, 7, none⟩ = some (.slice A0_7 l0_7.length c0_7) := (blk_cell BK150.out 7).trans rfl
                have hfz35_0 := blk_frozen BK150.out 0
                have hfz35_1 := blk_frozen BK150.out 1
                have hfz35_2 := blk_frozen BK150.out 2
                have hfz35_3 := blk_frozen BK150.out 3
                have hfz35_4 := blk_frozen BK150.out 4
                have hfz35_5 := blk_frozen BK150.out 5
                have hfz35_6 := blk_frozen BK150.out 6
                have hfz35_7 := blk_frozen BK150.out 7
                go_wp2_with (first | ((with_reducible refine gate_callee (f := 27) rfl ?_); refine goesL_ (some 59) rfl rfl Try.func27 (by kernel_rfl) rfl #[.agg #[.int .i64 a0_0, .int .i64 a0_1, .int .i64 a0_2, .string a0_3, .string a0_4, .slice A0_5 l0_5.length c0_5, .int .i64 a0_6, .slice A0_7 l0_7.length c0_7]] rfl (by (try simp only [List.map_toArray, List.map_cons, List.map_nil]); first | done | rfl | (simp only [List.length_drop, List.length_take]; rfl)) ?_; (with_reducible refine (redoubtref04_size.calls k2 a0_0 a0_1 a0_2 a0_3 a0_4 _ _ l0_5 a0_6 _ _ l0_7 t158 _ ?side1 ?side2 ?side3 ?side4 A31.out).mono ?_); (case side1 => repeat (first | exact (Kd.C_below HR0_5.out HB.out) | (with_reducible refine Kd.C_alloc ?_ _) | (with_reducible refine Kd.C_drewN ?_ _) | (with_reducible refine Kd.C_drew ?_))); (case side2 => exact HC0_5.out); (case side3 => repeat (first | exact (Kd.C_below HR0_7.out HB.out) | (with_reducible refine Kd.C_alloc ?_ _) | (with_reducible refine Kd.C_drewN ?_ _) | (with_reducible refine Kd.C_drew ?_))); (case side4 => exact HC0_7.out); rintro e w36 ⟨rfl, hb⟩; refine ⟨_, rfl, ?_⟩; have n0_ := Aside0.mk (blk_below (g := gb150) (o := .cells #[.int .i64 a0_0, .int .i64 a0_1, .int .i64 a0_2, .string a0_3, .string a0_4, .slice A0_5 l0_5.length c0_5, .int .i64 a0_6, .slice A0_7 l0_7.length c0_7] 26 (0, 0)) (by (with_reducible repeat (first | refine blk_drewN ?_ _ | refine blk_drew ?_ | refine blk_alloc ?_ _)); exact BK150.out) hb); have n1_ := Aside0.mk (below_step (by repeat (first | (with_reducible first | exact HB.out | apply below_alloc | apply pw_below_drewN | apply below_drew1 | refine below_set ?_ GE150.out) | exact HB.out)) hb); clear BK150; clear HB; have BK150 := n0_; have HB := n1_; clear n0_ n1_; (try clear hb); (try clear hb2); (try clear hk); (try clear hi)))
                go_ret
                exact ⟨by first | rfl | (simp [errW_none, errW_some] <;> rfl) | (simp [*, errW_none, errW_some] <;> rfl), by repeat (first | (with_reducible first | exact HB.out | apply below_alloc | apply pw_below_drewN | apply below_drew1 | refine below_set ?_ GE150.out) | exact HB.out)⟩

-- NOT PRINTED: function 16 (ip6_Check)

/-! ### redoubtref01_Four: function 28 -/
def redoubtref01_Four.f (a0 : Int) : Option (List Int) := some (([(wrap64 (Int.tdiv a0 16777216)) % 256, (Int.tmod (wrap64 (Int.tdiv a0 65536)) 256) % 256, (Int.tmod (wrap64 (Int.tdiv a0 256)) 256) % 256, (Int.tmod a0 256) % 256] : List Int))
set_option maxHeartbeats 8000000 in
set_option maxRecDepth 100000 in
theorem redoubtref01_Four.calls (a0 : Int) (r : List Int) (w : World) (h : redoubtref01_Four.f a0 = some r) :
    Calls Try.prog 28 #[.int .i64 a0] w fun e w' => ∃ v0_ : Value, e = .returned (v0_) ∧ Kd.R (Kd.int .u8) 5 w' w.heap.size (fun _ => True) v0_ r ∧ Below w.heap.size w w' := by
  have HB := Aside0.mk (Below.refl w.heap.size w)
  have H : (some (([(wrap64 (Int.tdiv a0 16777216)) % 256, (Int.tmod (wrap64 (Int.tdiv a0 65536)) 256) % 256, (Int.tmod (wrap64 (Int.tdiv a0 256)) 256) % 256, (Int.tmod a0 256) % 256] : List Int))) = some r := h
  clear h
  obtain ⟨y160, hy160⟩ : ∃ y_ : List Int, y_ = (([(wrap64 (Int.tdiv a0 16777216)) % 256, (Int.tmod (wrap64 (Int.tdiv a0 65536)) 256) % 256, (Int.tmod (wrap64 (Int.tdiv a0 256)) 256) % 256, (Int.tmod a0 256) % 256] : List Int)) := ⟨_, rfl⟩
  replace H : (some y160) = some r := by first | (rw [hy160]; with_reducible exact H) | (have H2_ := (Option.bind_some _ _).symm.trans H; rw [hy160]; with_reducible exact H2_) | (have H2_ := (Option.bind_some _ _).symm.trans H; with_reducible exact H2_) | with_reducible exact H | (rw [hy160]; exact H) | exact H
  have Ny160 := Aside0.mk hy160
  clear hy160
  obtain rfl := Option.some.inj H
  go_enter Try.func28, Try.ntmps28
  go_wp2_with (first | ((with_reducible refine gate_dst (N := 17) rfl ?_); refine Kd.R_lit (Kd.int .u8) _ 5 ?hg (N := 17) ?hd (xs := ([(wrap64 (Int.tdiv a0 16777216)) % 256, (Int.tmod (wrap64 (Int.tdiv a0 65536)) 256) % 256, (Int.tmod (wrap64 (Int.tdiv a0 256)) 256) % 256, (Int.tmod a0 256) % 256] : List Int)) (inner := [.int .u8 ((wrap64 (Int.tdiv a0 16777216)) % 256), .int .u8 ((Int.tmod (wrap64 (Int.tdiv a0 65536)) 256) % 256), .int .u8 ((Int.tmod (wrap64 (Int.tdiv a0 256)) 256) % 256), .int .u8 ((Int.tmod a0 256) % 256)]) (ok := fun _ => True) (okp := fun _ => True) ?hr ?hp (fun _ hk => hk) trivial (Below.refl _ _) (Nat.le_refl _) (by simp) ?_; (case hd => rfl); (case hg => rfl); (case hr => first | (go_simp; done) | (go_simp; rfl)); (case hp => exact (Reps.one (show Kd.M (Kd.int .u8) _ _ _ ((wrap64 (Int.tdiv a0 16777216)) % 256) [.int .u8 ((wrap64 (Int.tdiv a0 16777216)) % 256)] from rfl) (Reps.one (show Kd.M (Kd.int .u8) _ _ _ ((Int.tmod (wrap64 (Int.tdiv a0 65536)) 256) % 256) [.int .u8 ((Int.tmod (wrap64 (Int.tdiv a0 65536)) 256) % 256)] from rfl) (Reps.one (show Kd.M (Kd.int .u8) _ _ _ ((Int.tmod (wrap64 (Int.tdiv a0 256)) 256) % 256) [.int .u8 ((Int.tmod (wrap64 (Int.tdiv a0 256)) 256) % 256)] from rfl) (Reps.one (show Kd.M (Kd.int .u8) _ _ _ ((Int.tmod a0 256) % 256) [.int .u8 ((Int.tmod a0 256) % 256)] from rfl) (Reps.none _ _)))))); intro v161 w2 ho3 hb hg_ hnew_; clear hg_ hnew_; (first | rw [← Ny160.out] at ho3 | (simp only [Int.reduceToNat] at ho3; rw [← Ny160.out] at ho3)); have n0_ := Aside0.mk (Kd.R_lower ho3 (below_size (by repeat (first | (with_reducible first | exact HB.out | apply below_alloc | apply pw_below_drewN | apply below_drew1) | exact HB.out)))); have n1_ := Aside0.mk (below_step (by repeat (first | (with_reducible first | exact HB.out | apply below_alloc | apply pw_below_drewN | apply below_drew1) | exact HB.out)) hb); clear HB; have HO162 := n0_; have HB := n1_; clear n0_ n1_; clear hb ho3))
  go_ret
  exact ⟨_, by first | rfl | (simp [errW_none, errW_some] <;> rfl) | (simp [*, errW_none, errW_some] <;> rfl), by (with_reducible repeat (first | apply Kd.R_alloc | apply Kd.R_drewN | apply Kd.R_drew)); exact HO162.out, by repeat (first | (with_reducible first | exact HB.out | apply below_alloc | apply pw_below_drewN | apply below_drew1) | exact HB.out)⟩

/-! ### redoubtref01_Two: function 29 -/
def redoubtref01_Two.f (a0 : Int) : Option (List Int) := some (([(wrap64 (Int.tdiv a0 256)) % 256, (Int.tmod a0 256) % 256] : List Int))
set_option maxHeartbeats 8000000 in
set_option maxRecDepth 100000 in
theorem redoubtref01_Two.calls (a0 : Int) (r : List Int) (w : World) (h : redoubtref01_Two.f a0 = some r) :
    Calls Try.prog 29 #[.int .i64 a0] w fun e w' => ∃ v0_ : Value, e = .returned (v0_) ∧ Kd.R (Kd.int .u8) 5 w' w.heap.size (fun _ => True) v0_ r ∧ Below w.heap.size w w' := by
  have HB := Aside0.mk (Below.refl w.heap.size w)
  have H : (some (([(wrap64 (Int.tdiv a0 256)) % 256, (Int.tmod a0 256) % 256] : List Int))) = some r := h
  clear h
  obtain ⟨y163, hy163⟩ : ∃ y_ : List Int, y_ = (([(wrap64 (Int.tdiv a0 256)) % 256, (Int.tmod a0 256) % 256] : List Int)) := ⟨_, rfl⟩
  replace H : (some y163) = some r := by first | (rw [hy163]; with_reducible exact H) | (have H2_ := (Option.bind_some _ _).symm.trans H; rw [hy163]; with_reducible exact H2_) | (have H2_ := (Option.bind_some _ _).symm.trans H; with_reducible exact H2_) | with_reducible exact H | (rw [hy163]; exact H) | exact H
  have Ny163 := Aside0.mk hy163
  clear hy163
  obtain rfl := Option.some.inj H
  go_enter Try.func29, Try.ntmps29
  go_wp2_with (first | ((with_reducible refine gate_dst (N := 9) rfl ?_); refine Kd.R_lit (Kd.int .u8) _ 5 ?hg (N := 9) ?hd (xs := ([(wrap64 (Int.tdiv a0 256)) % 256, (Int.tmod a0 256) % 256] : List Int)) (inner := [.int .u8 ((wrap64 (Int.tdiv a0 256)) % 256), .int .u8 ((Int.tmod a0 256) % 256)]) (ok := fun _ => True) (okp := fun _ => True) ?hr ?hp (fun _ hk => hk) trivial (Below.refl _ _) (Nat.le_refl _) (by simp) ?_; (case hd => rfl); (case hg => rfl); (case hr => first | (go_simp; done) | (go_simp; rfl)); (case hp => exact (Reps.one (show Kd.M (Kd.int .u8) _ _ _ ((wrap64 (Int.tdiv a0 256)) % 256) [.int .u8 ((wrap64 (Int.tdiv a0 256)) % 256)] from rfl) (Reps.one (show Kd.M (Kd.int .u8) _ _ _ ((Int.tmod a0 256) % 256) [.int .u8 ((Int.tmod a0 256) % 256)] from rfl) (Reps.none _ _)))); intro v164 w2 ho3 hb hg_ hnew_; clear hg_ hnew_; (first | rw [← Ny163.out] at ho3 | (simp only [Int.reduceToNat] at ho3; rw [← Ny163.out] at ho3)); have n0_ := Aside0.mk (Kd.R_lower ho3 (below_size (by repeat (first | (with_reducible first | exact HB.out | apply below_alloc | apply pw_below_drewN | apply below_drew1) | exact HB.out)))); have n1_ := Aside0.mk (below_step (by repeat (first | (with_reducible first | exact HB.out | apply below_alloc | apply pw_below_drewN | apply below_drew1) | exact HB.out)) hb); clear HB; have HO165 := n0_; have HB := n1_; clear n0_ n1_; clear hb ho3))
  go_ret
  exact ⟨_, by first | rfl | (simp [errW_none, errW_some] <;> rfl) | (simp [*, errW_none, errW_some] <;> rfl), by (with_reducible repeat (first | apply Kd.R_alloc | apply Kd.R_drewN | apply Kd.R_drew)); exact HO165.out, by repeat (first | (with_reducible first | exact HB.out | apply below_alloc | apply pw_below_drewN | apply below_drew1) | exact HB.out)⟩

/-! ### redoubtref04_kind: function 30 -/
def redoubtref04_kind.f (a0_0 : Int) (a0_1 : Int) (a0_2 : Int) (a0_3 : ByteArray) (a0_4 : ByteArray) (l0_5 : List (S43)) (a0_6 : Int) (l0_7 : List Int) (a1 : Int) : Option (Int) := if a1 < (l0_5.length : Int) then (if 0 ≤ a1 then (some (((rd_T43 l0_5 a1).f0) % 256)) else (none)) else (some ((a0_6) % 256))
set_option maxHeartbeats 8000000 in
set_option maxRecDepth 100000 in
theorem redoubtref04_kind.calls (a0_0 : Int) (a0_1 : Int) (a0_2 : Int) (a0_3 : ByteArray) (a0_4 : ByteArray) (A0_5 : Option Addr) (c0_5 : Nat) (l0_5 : List (S43)) (a0_6 : Int) (A0_7 : Option Addr) (c0_7 : Nat) (l0_7 : List Int) (a1 : Int) (r : Int) (w : World) (hr0_5 : Kd.C k43 w A0_5 l0_5.length l0_5) (hc0_5 : l0_5.length ≤ c0_5) (hr0_7 : Kd.C (Kd.int .u8) w A0_7 l0_7.length l0_7) (hc0_7 : l0_7.length ≤ c0_7) (h : redoubtref04_kind.f a0_0 a0_1 a0_2 a0_3 a0_4 l0_5 a0_6 l0_7 a1 = some r) :
    Calls Try.prog 30 #[.agg #[.int .i64 a0_0, .int .i64 a0_1, .int .i64 a0_2, .string a0_3, .string a0_4, .slice A0_5 l0_5.length c0_5, .int .i64 a0_6, .slice A0_7 l0_7.length c0_7], .int .i64 a1] w fun e w' => e = .returned (.int .u8 r) ∧ Below w.heap.size w w' := by
  have hu26 := Try.underlying26
  have HR0_5 := Aside0.mk hr0_5
  have HC0_5 := Aside0.mk hc0_5
  clear hr0_5 hc0_5
  have HR0_7 := Aside0.mk hr0_7
  have HC0_7 := Aside0.mk hc0_7
  clear hr0_7 hc0_7
  have HB := Aside0.mk (Below.refl w.heap.size w)
  have H : (if a1 < (l0_5.length : Int) then (if 0 ≤ a1 then (some (((rd_T43 l0_5 a1).f0) % 256)) else (none)) else (some ((a0_6) % 256))) = some r := h
  clear h
  by_cases c3 : a1 < (l0_5.length : Int)
  · rw [if_pos c3] at H
    have c3b0 : decide (a1 < (l0_5.length : Int)) = true := decide_eq_true c3
    clear c3
    by_cases c4 : 0 ≤ a1
    · rw [if_pos c4] at H
      have c4b0 : decide (0 ≤ a1) = true := decide_eq_true c4
      clear c4
      obtain rfl := Option.some.inj H
      go_enter Try.func30, Try.ntmps30
      go_wp2_with (first | ((with_reducible refine gate_dst (N := 2) rfl ?_); refine box_event ?hg (N := 2) ?hd (cs := #[.int .i64 a0_0, .int .i64 a0_1, .int .i64 a0_2, .string a0_3, .string a0_4, .slice A0_5 l0_5.length c0_5, .int .i64 a0_6, .slice A0_7 l0_7.length c0_7]) (t := 26) ?hr ?_; (case hd => rfl); (case hg => rfl); (case hr => first | (go_simp; done) | (go_simp; rfl)); intro gb166 hg w5 hbox hb; have n0_ := Aside0.mk (below_step (by repeat (first | (with_reducible first | exact HB.out | apply below_alloc | apply pw_below_drewN | apply below_drew1) | exact HB.out)) hb); have n1_ := Aside0.mk (hbox); have n2_ := Aside0.mk ((by rw [hg]; exact (below_size (by repeat (first | (with_reducible first | exact HB.out | apply below_alloc | apply pw_below_drewN | apply below_drew1) | exact HB.out))) : w.heap.size ≤ gb166)); have n3_ := Aside0.mk ((by rw [hg]; exact (below_size (by repeat (first | (with_reducible first | exact HB.out | apply below_alloc | apply pw_below_drewN | apply below_drew1) | exact HB.out))) : w.heap.size ≤ gb166)); clear HB; have HB := n0_; have BK166 := n1_; have GW166 := n2_; have GE166 := n3_; clear n0_ n1_ n2_ n3_; clear hb hbox hg; have hcz6_0 : w5.cell? ⟨gb166, 0, none⟩ = some (.int .i64 a0_0) := (blk_cell BK166.out 0).trans rfl; have hcz6_1 : w5.cell? ⟨gb166, 1, none⟩ = some (.int .i64 a0_1) := (blk_cell BK166.out 1).trans rfl; have hcz6_2 : w5.cell? ⟨gb166, 2, none⟩ = some (.int .i64 a0_2) := (blk_cell BK166.out 2).trans rfl; have hcz6_3 : w5.cell? ⟨gb166, 3, none⟩ = some (.string a0_3) := (blk_cell BK166.out 3).trans rfl; have hcz6_4 : w5.cell? ⟨gb166, 4, none⟩ = some (.string a0_4) := (blk_cell BK166.out 4).trans rfl; have hcz6_5 : w5.cell? ⟨gb166, 5, none⟩ = some (.slice A0_5 l0_5.length c0_5) := (blk_cell BK166.out 5).trans rfl; have hcz6_6 : w5.cell? ⟨gb166, 6, none⟩ = some (.int .i64 a0_6) := (blk_cell BK166.out 6).trans rfl; have hcz6_7 : w5.cell? ⟨gb166, 7, none⟩ = some (.slice A0_7 l0_7.length c0_7) := (blk_cell BK166.out 7).trans rfl; have hfz6_0 := blk_frozen BK166.out 0; have hfz6_1 := blk_frozen BK166.out 1; have hfz6_2 := blk_frozen BK166.out 2; have hfz6_3 := blk_frozen BK166.out 3; have hfz6_4 := blk_frozen BK166.out 4; have hfz6_5 := blk_frozen BK166.out 5; have hfz6_6 := blk_frozen BK166.out 6; have hfz6_7 := blk_frozen BK166.out 7; have p167 : 0 ≤ (a1 : Int) := of_decide_eq_true (by first | (with_reducible assumption) | assumption); have q167 : a1 < (l0_5.length : Int) := of_decide_eq_true (by first | (with_reducible assumption) | assumption); obtain ⟨ad167, e167, hx167_0, hx167_1⟩ := at_T43 HR0_5.out a1 p167 q167; cases e167; replace hx167_0 := (HB.out.cell (World.block_lt_of_cell? w _ hx167_0)).trans hx167_0; replace hx167_1 := (HB.out.cell (World.block_lt_of_cell? w _ hx167_1)).trans hx167_1; replace p167 := eq_true p167; replace q167 := eq_true q167))
      go_ret
      exact ⟨by first | rfl | (simp [errW_none, errW_some] <;> rfl) | (simp [*, errW_none, errW_some] <;> rfl), by repeat (first | (with_reducible first | exact HB.out | apply below_alloc | apply pw_below_drewN | apply below_drew1 | refine below_set ?_ GE166.out) | exact HB.out)⟩
    · rw [if_neg c4] at H
      exact absurd H (by simp)
  · rw [if_neg c3] at H
    have c3b0 : decide (a1 < (l0_5.length : Int)) = false := decide_eq_false c3
    clear c3
    obtain rfl := Option.some.inj H
    go_enter Try.func30, Try.ntmps30
    go_wp2_with (first | ((with_reducible refine gate_dst (N := 2) rfl ?_); refine box_event ?hg (N := 2) ?hd (cs := #[.int .i64 a0_0, .int .i64 a0_1, .int .i64 a0_2, .string a0_3, .string a0_4, .slice A0_5 l0_5.length c0_5, .int .i64 a0_6, .slice A0_7 l0_7.length c0_7]) (t := 26) ?hr ?_; (case hd => rfl); (case hg => rfl); (case hr => first | (go_simp; done) | (go_simp; rfl)); intro gb166 hg w7 hbox hb; have n0_ := Aside0.mk (below_step (by repeat (first | (with_reducible first | exact HB.out | apply below_alloc | apply pw_below_drewN | apply below_drew1) | exact HB.out)) hb); have n1_ := Aside0.mk (hbox); have n2_ := Aside0.mk ((by rw [hg]; exact (below_size (by repeat (first | (with_reducible first | exact HB.out | apply below_alloc | apply pw_below_drewN | apply below_drew1) | exact HB.out))) : w.heap.size ≤ gb166)); have n3_ := Aside0.mk ((by rw [hg]; exact (below_size (by repeat (first | (with_reducible first | exact HB.out | apply below_alloc | apply pw_below_drewN | apply below_drew1) | exact HB.out))) : w.heap.size ≤ gb166)); clear HB; have HB := n0_; have BK166 := n1_; have GW166 := n2_; have GE166 := n3_; clear n0_ n1_ n2_ n3_; clear hb hbox hg; have hcz8_0 : w7.cell? ⟨gb166, 0, none⟩ = some (.int .i64 a0_0) := (blk_cell BK166.out 0).trans rfl; have hcz8_1 : w7.cell? ⟨gb166, 1, none⟩ = some (.int .i64 a0_1) := (blk_cell BK166.out 1).trans rfl; have hcz8_2 : w7.cell? ⟨gb166, 2, none⟩ = some (.int .i64 a0_2) := (blk_cell BK166.out 2).trans rfl; have hcz8_3 : w7.cell? ⟨gb166, 3, none⟩ = some (.string a0_3) := (blk_cell BK166.out 3).trans rfl; have hcz8_4 : w7.cell? ⟨gb166, 4, none⟩ = some (.string a0_4) := (blk_cell BK166.out 4).trans rfl; have hcz8_5 : w7.cell? ⟨gb166, 5, none⟩ = some (.slice A0_5 l0_5.length c0_5) := (blk_cell BK166.out 5).trans rfl; have hcz8_6 : w7.cell? ⟨gb166, 6, none⟩ = some (.int .i64 a0_6) := (blk_cell BK166.out 6).trans rfl; have hcz8_7 : w7.cell? ⟨gb166, 7, none⟩ = some (.slice A0_7 l0_7.length c0_7) := (blk_cell BK166.out 7).trans rfl; have hfz8_0 := blk_frozen BK166.out 0; have hfz8_1 := blk_frozen BK166.out 1; have hfz8_2 := blk_frozen BK166.out 2; have hfz8_3 := blk_frozen BK166.out 3; have hfz8_4 := blk_frozen BK166.out 4; have hfz8_5 := blk_frozen BK166.out 5; have hfz8_6 := blk_frozen BK166.out 6; have hfz8_7 := blk_frozen BK166.out 7))
    go_ret
    exact ⟨by first | rfl | (simp [errW_none, errW_some] <;> rfl) | (simp [*, errW_none, errW_some] <;> rfl), by repeat (first | (with_reducible first | exact HB.out | apply below_alloc | apply pw_below_drewN | apply below_drew1 | refine below_set ?_ GE166.out) | exact HB.out)⟩

-- NOT PRINTED: function 19 (redoubtref04_Bytes)

-- NOT PRINTED: function 5 (redoubtlaw04_Ip6Lays)

end Go.Proofs.Ytpodidgdlcfaeaa.PIp6Lays

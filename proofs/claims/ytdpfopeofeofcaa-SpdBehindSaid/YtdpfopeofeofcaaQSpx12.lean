-- Written by a program of this session (wip/tools/pp.py) out of what the kit's print.py prints over this seat's translation. Not trusted: Lean checks it.
import Derived.Test.YtdpfopeofeofcaaQSpx0
import Derived.Test.YtdpfopeofeofcaaQSpx7
import Derived.Test.YtdpfopeofeofcaaQSpx9
import Derived.Test.YtdpfopeofeofcaaQSpx11
namespace Go.Proofs.Ytdpfopeofeofcaa.QSp
open Go.RowKit Go.Proofs.YtdpfopeofeofcaaW.PrintWords Go.Proofs.YtdpfopeofeofcaaW.PrintLast Go.Proofs.YtdpfopeofeofcaaW.PrintMore
attribute [local go_sem] max2_int min2_int max_two min_two max_three min_three max_four min_four   -- for this text's walks alone
set_option linter.unusedVariables false
set_option linter.unusedSimpArgs false

/-! ### addr_Compare: function 33 -/
def addr_Compare.f (k : Nat) (a0 : ByteArray) (a1 : ByteArray) : Option (Int) := (cmp_Compare_int.f (a0.size : Int) (a1.size : Int)).bind fun t110 => ((cmp_Compare_string.f a0 a1).bind fun t111 => ((cmp_Or_int.f k (([t110, t111] : List Int))).bind fun t115 => (some t115)))
theorem addr_Compare.mono : ∀ a0 a1 k, LeO (addr_Compare.f k a0 a1) (addr_Compare.f (k + 1) a0 a1) := by
  intro a0 a1 k
  unfold addr_Compare.f
  repeat' first
      | (with_reducible exact cmp_Or_int.mono _ _)
      | (with_reducible exact LeO.refl _)
      | (with_reducible exact LeO.none _)
      | (with_reducible refine LeO.ite ?_ ?_)
      | (with_reducible refine LeO.bind ?_ (fun _ => ?_))
      | exact cmp_Or_int.mono _ _
      | exact LeO.none _
      | refine LeO.ite ?_ ?_
      | refine LeO.bind ?_ (fun _ => ?_)
set_option maxHeartbeats 8000000 in
set_option maxRecDepth 100000 in
theorem addr_Compare.calls (k : Nat) (a0 : ByteArray) (a1 : ByteArray) (r : Int) (w : World) (h : addr_Compare.f k a0 a1 = some r) :
    Calls Try.prog 33 #[.string a0, .string a1] w fun e w' => e = .returned (.int .i64 r) ∧ Below w.heap.size w w' := by
  have HB := Aside0.mk (Below.refl w.heap.size w)
  have H : ((cmp_Compare_int.f (a0.size : Int) (a1.size : Int)).bind fun t110 => ((cmp_Compare_string.f a0 a1).bind fun t111 => ((cmp_Or_int.f k (([t110, t111] : List Int))).bind fun t115 => (some t115)))) = some r := h
  clear h
  replace H := Option.bind_eq_some_iff.mp H
  obtain ⟨t110, A30, H⟩ := H
  replace H : ((cmp_Compare_string.f a0 a1).bind fun t111 => ((cmp_Or_int.f k (([t110, t111] : List Int))).bind fun t115 => (some t115))) = some r := H
  have A3 := Aside0.mk A30
  clear A30
  replace H := Option.bind_eq_some_iff.mp H
  obtain ⟨t111, A40, H⟩ := H
  replace H : ((cmp_Or_int.f k (([t110, t111] : List Int))).bind fun t115 => (some t115)) = some r := H
  have A4 := Aside0.mk A40
  clear A40
  obtain ⟨y112, hy112⟩ : ∃ y_ : List Int, y_ = (([t110, t111] : List Int)) := ⟨_, rfl⟩
  replace H : ((cmp_Or_int.f k y112).bind fun t115 => (some t115)) = some r := by first | (rw [hy112]; with_reducible exact H) | (have H2_ := (Option.bind_some _ _).symm.trans H; rw [hy112]; with_reducible exact H2_) | (have H2_ := (Option.bind_some _ _).symm.trans H; with_reducible exact H2_) | with_reducible exact H | (rw [hy112]; exact H) | exact H
  have Ny112 := Aside0.mk hy112
  clear hy112
  replace H := Option.bind_eq_some_iff.mp H
  obtain ⟨t115, A50, H⟩ := H
  replace H : (some t115) = some r := H
  have A5 := Aside0.mk A50
  clear A50
  obtain rfl := Option.some.inj H
  go_enter Try.func33, Try.ntmps33
  go_wp2_with (first | ((with_reducible refine gate_callee (f := 36) rfl ?_); refine goesL_ (some 9) rfl rfl Try.func36 (by kernel_rfl) rfl #[.int .i64 (a0.size : Int), .int .i64 (a1.size : Int)] rfl (by (try simp only [List.map_toArray, List.map_cons, List.map_nil]); first | done | rfl | (simp only [List.length_drop, List.length_take]; rfl)) ?_; (with_reducible refine (cmp_Compare_int.calls (a0.size : Int) (a1.size : Int) t110 _ A3.out).mono ?_); rintro e w' ⟨rfl, ⟨nd, rfl⟩⟩; refine ⟨_, rfl, ?_⟩) | ((with_reducible refine gate_callee (f := 37) rfl ?_); refine goesL_ (some 12) rfl rfl Try.func37 (by kernel_rfl) rfl #[.string a0, .string a1] rfl (by (try simp only [List.map_toArray, List.map_cons, List.map_nil]); first | done | rfl | (simp only [List.length_drop, List.length_take]; rfl)) ?_; (with_reducible refine (cmp_Compare_string.calls a0 a1 t111 _ A4.out).mono ?_); rintro e w' ⟨rfl, ⟨nd, rfl⟩⟩; refine ⟨_, rfl, ?_⟩) | ((with_reducible refine gate_dst (N := 13) rfl ?_); refine Kd.R_lit (Kd.int .i64) _ 3 ?hg (N := 13) ?hd (xs := ([t110, t111] : List Int)) (inner := [.int .i64 t110, .int .i64 t111]) (ok := fun _ => True) (okp := fun _ => True) ?hr ?hp (fun _ hk => hk) trivial (Below.refl _ _) (Nat.le_refl _) (by simp) ?_; (case hd => rfl); (case hg => rfl); (case hr => first | (go_simp; done) | (go_simp; rfl)); (case hp => exact (Reps.one (show Kd.M (Kd.int .i64) _ _ _ t110 [.int .i64 t110] from rfl) (Reps.one (show Kd.M (Kd.int .i64) _ _ _ t111 [.int .i64 t111] from rfl) (Reps.none _ _)))); intro v113 w6 ho7 hb hg_ hnew_; clear hg_ hnew_; (first | rw [← Ny112.out] at ho7 | (simp only [Int.reduceToNat] at ho7; rw [← Ny112.out] at ho7)); have n0_ := Aside0.mk (Kd.R_lower ho7 (below_size (by repeat (first | (with_reducible first | exact HB.out | apply below_alloc | apply pw_below_drewN | apply below_drew1) | exact HB.out)))); have n1_ := Aside0.mk (below_step (by repeat (first | (with_reducible first | exact HB.out | apply below_alloc | apply pw_below_drewN | apply below_drew1) | exact HB.out)) hb); clear HB; have HO114 := n0_; have HB := n1_; clear n0_ n1_; clear hb ho7; obtain ⟨Ao8, co8, eo8⟩ := Kd.R_slice HO114.out; subst eo8) | ((with_reducible refine gate_callee (f := 35) rfl ?_); refine goesL_ (some 14) rfl rfl Try.func35 (by kernel_rfl) rfl #[.slice Ao8 y112.length co8] rfl (by (try simp only [List.map_toArray, List.map_cons, List.map_nil]); first | done | rfl | (simp only [List.length_drop, List.length_take]; rfl)) ?_; (with_reducible refine (cmp_Or_int.calls k _ _ y112 t115 _ ?side1 ?side2 A5.out).mono ?_); (case side1 => repeat (first | exact (Kd.R_reads' HO114.out).2.2 | (with_reducible refine Kd.C_alloc ?_ _) | (with_reducible refine Kd.C_drewN ?_ _) | (with_reducible refine Kd.C_drew ?_))); (case side2 => exact (Kd.R_reads' HO114.out).2.1); rintro e w' ⟨rfl, ⟨nd, rfl⟩⟩; refine ⟨_, rfl, ?_⟩))
  go_ret
  exact ⟨by first | rfl | (simp [errW_none, errW_some] <;> rfl) | (simp [*, errW_none, errW_some] <;> rfl), by repeat (first | (with_reducible first | exact HB.out | apply below_alloc | apply pw_below_drewN | apply below_drew1) | exact HB.out)⟩

end Go.Proofs.Ytdpfopeofeofcaa.QSp

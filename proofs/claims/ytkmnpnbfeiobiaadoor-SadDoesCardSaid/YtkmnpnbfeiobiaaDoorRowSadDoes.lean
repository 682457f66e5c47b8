/- The row of the law SadDoes: for every input the call returns true, and each argument reads afterwards as it read before. Its frame is written by wip/tools/mkrow.py after the kit's own frame. -/
import Derived.Test.YtkmnpnbfeiobiaaDoorRows
import Derived.Test.YtkmnpnbfeiobiaaDoorSdX5
import Derived.Test.YtkmnpnbfeiobiaaDoorReads
import Derived.Test.YtkmnpnbfeiobiaaDoorCards
import Derived.Test.YtkmnpnbfeiobiaaDoorTie
import Derived.Test.YtkmnpnbfeiobiaaDoorSdL0
import Derived.WalkKit
import Derived.ProofKit
import Derived.OpenShut
import Derived.ShutString
import Derived.ChangeOld
import Derived.Below
import Derived.SizedLaws
import Derived.Carry
import Derived.LaidMore
import Derived.SevenTiedAt
import Derived.Stop.Joined
set_option linter.unusedVariables false
set_option linter.unusedSimpArgs false
namespace Go.Proofs.YtkmnpnbfeiobiaaDoor.sadDoes
open Go.ChangeShapes Go.WideShapes Go.ChangeAt Go.RowKit
open Go.ChangeMaps (open_string shut_string)
theorem own : ownKnob Tryd.prog.godebug = none := by kernel_rfl
theorem laidOut : laidOutB Tryd.prog = true := by kernel_rfl
set_option maxRecDepth 100000 in
theorem lifted (os : Os) (started : os.Started) (H : Type) (enc : TypeId × Value → H) :
    ReturnsInHanded {} Tryd.checked os 6 .any (fun w args => (Rows.sadDoesSpec.pre enc Tryd.prog Tryd.f6 [] false w args ∧ laidMetH Tryd.prog Go.Proofs.YtkmnpnbfeiobiaaDoor.Sd.laidL w) ∧ sizedMet enc Tryd.prog Tryd.f6 (OpenSpec.ofChange Rows.sadDoesSpec) false w args) (Rows.sadDoesSpec.post enc Tryd.prog Tryd.f6 false true false false) := by
  refine returnsInHanded_of_change_and (C := Tryd.checked) (X := fun w _ => laidMetH Tryd.prog Go.Proofs.YtkmnpnbfeiobiaaDoor.Sd.laidL w) (fun _ _ _ hh h => h.of_heap hh) own started (by kernel_rfl) Tryd.func6
    (ChangeSpec.witness_shaped (enc := enc) (C := Tryd.checked) (os := os) (X := fun w _ => laidMetH Tryd.prog Go.Proofs.YtkmnpnbfeiobiaaDoor.Sd.laidL w) false (World.doorLaid Tryd.prog 400 os) #[.slice none 0 0] 8 rfl (World.shaped_of_RefB (by kernel_rfl) (by kernel_rfl)) (by kernel_rfl) (by kernel_rfl) (by kernel_rfl) (Go.Proofs.YtkmnpnbfeiobiaaDoor.Sd.door_met os _)) ?_
  intro W base args ds gs before hval0 hW hcnd hsz0 hL _
  have hsz : (DataW.weightsEach Tryd.prog (Tryd.f6.params.toList ++ Rows.sadDoesSpec.plain.varTypes Tryd.prog) (ds ++ gs)).all (· ≤ reachBytes) = true := hsz0
  have hval : ∀ (j : Nat) t v, Tryd.f6.params[j]? = some t → args[j]? = some v → Value.okWide Tryd.prog W .any base t v := hval0
  have hW' := hW
  obtain ⟨p, q, hA0, hV, rfl, hfz, hnd⟩ := hW
  have hA : DataW.TrodAll enc Tryd.prog W 0 (fun _ => true) true Tryd.f6.params.toList args.toList ds p := hA0
  rw [Tryd.params6] at hA hval hsz
  obtain ⟨v0, vs0, d0, ds0, p0, q0, hargs, rfl, rfl, h0, r0⟩ := trodAll_cons hA
  obtain ⟨rfl, rfl, rfl⟩ := trodAll_nil r0
  obtain rfl : args = #[v0] := by cases args; simp_all
  obtain ⟨rfl, rfl⟩ := trodVars_none hV
  have k0 := h0
  have lt0 : ∀ x ∈ p0, x.block < W.heap.size := by obtain ⟨m, hm⟩ := k0; exact DataW.trod_lt m _ _ _ hm
  have wt0 : ∀ n ∈ d0.weights Tryd.prog 35, n ≤ 140737488351232 := (fun n hn => by have z := List.all_eq_true.1 hsz _ (DataW.weights_mem_each (j := 0) (t := 35) rfl rfl n hn); exact of_decide_eq_true z)
  obtain ⟨a0, len0, cap0, rfl⟩ := okWide_slice Tryd.underlying35 (hval 0 35 v0 rfl rfl)
  clear hA0 hval0 hsz0 hsz
  refine (Go.Proofs.YtkmnpnbfeiobiaaDoor.Sd.does_law a0 len0 cap0 W (Go.Proofs.YtkmnpnbfeiobiaaDoor.Sd.laid_of hL) k0 wt0).mono fun e W' ⟨he, bel⟩ => ?_
  subst he
  exact ⟨_, rfl, _, _, _, [], _, [], hW', trodAll_mk1 (shut_bool Tryd.underlying4 _), (trodAll_cons_mk (Below.trod laidOut (by kernel_rfl) (of_decide_eq_true (by kernel_rfl)) k0 bel lt0) trodAll_mk0), rfl, bel.frame _, fun h => by cases h⟩
theorem over : Rows.sadDoesRow.holds Tryd.pinned (OpenSpec.ofChange Rows.sadDoesSpec) :=
  OpenClaim.holds_of_wide 6 Tryd.f6 rfl rfl rfl rfl rfl rfl rfl ⟨rfl, rfl, rfl, rfl, rfl⟩ rfl rfl rfl rfl rfl (by kernel_rfl) Tryd.func6 (by kernel_rfl)
    (of_decide_eq_true (by kernel_rfl)) (by unfold Func.isWrapper; first | (rw [if_pos (by decide +kernel)]; kernel_rfl) | (rw [if_neg (by decide +kernel)]; exact ⟨rfl, rfl⟩))
    (fun os started H enc _ => lifted os started H enc)
theorem proved : Rows.SadDoesSaid := over
theorem card : Rows.SadDoesCardSaid :=
  Claim7.holds_tied_plain_at .later [] [.handle] true (true, "24fe9ea054b125e779c78f14b040d0c74660837b36a8267acc60bba3218d645c") true
    proved (fun _ h => by cases h) (by kernel_rfl) (fun _ h => by cases h) sadDoes_row_tie rfl ⟨rfl, rfl⟩ (by kernel_rfl) rfl
    (fun f fn hf hfn => by
      obtain rfl : f = 6 := Option.some.inj ((show Tryd.prog.funcNamed "redoubt/redoubtlaw17.SadDoes" = some 6 by kernel_rfl).symm.trans hf) |>.symm
      obtain rfl : fn = Tryd.f6 := (Option.some.inj (Tryd.func6.symm.trans hfn)).symm
      exact ⟨by kernel_rfl, fun j t ht => by
        rw [Tryd.params6] at ht
        have hm : t ∈ [35] := by simpa using Array.mem_of_getElem? ht
        have hall : ([35].all fun u => !Tryd.prog.wantsStandIn u) = true := by kernel_rfl
        exact (show Tryd.prog.wantsStandIn t = false by simpa using List.all_eq_true.1 hall t hm)⟩)
    (by kernel_rfl)
#print axioms proved
end Go.Proofs.YtkmnpnbfeiobiaaDoor.sadDoes
namespace Go.Proofs.YtkmnpnbfeiobiaaDoor
/-- The row, under a short name, for the claim. -/
theorem sadDoesCard_holds : Rows.SadDoesCardSaid := sadDoes.card
end Go.Proofs.YtkmnpnbfeiobiaaDoor


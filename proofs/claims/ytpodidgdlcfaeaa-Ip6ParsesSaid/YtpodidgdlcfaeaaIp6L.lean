/- The law Ip6Fields over what came in. -/
import Derived.Test.YtpodidgdlcfaeaaIp6K
namespace Go.Proofs.Ytpodidgdlcfaeaa.Ip6
open Go.RowKit Go.Proofs.YtpodidgdlcfaeaaW.PrintWords Go.Proofs.YtpodidgdlcfaeaaW.PrintLast Go.Proofs.YtpodidgdlcfaeaaW.PrintMore Go.Proofs.Ytpodidgdlcfaeaa.PIp6Lays
set_option linter.unusedVariables false
theorem fields_walk {H : Type} {enc : TypeId × Value → H} {d : DataW H} (a0 a1 a2 : Int) (a3 a4 : ByteArray) (a5 : Option Addr) (n5 c5 : Nat) (a6 : Int) (a7 : Option Addr) (n7 c7 : Nat) (W : World)
    (f0 : (Lit.int .i64 a0).wf = true) (f1 : (Lit.int .i64 a1).wf = true) (f2 : (Lit.int .i64 a2).wf = true)
    (f5 : ∃ m e q, DataW.trod enc Try.prog W 0 (fun _ => true) true m 24 [.slice a5 n5 c5] = some (e, q) ∧ ∀ B, (∀ n ∈ d.weights Try.prog 26, n ≤ B) → ∀ n ∈ e.weights Try.prog 24, n ≤ B) (f6 : (Lit.int .i64 a6).wf = true)
    (f7 : ∃ m e q, DataW.trod enc Try.prog W 0 (fun _ => true) true m 22 [.slice a7 n7 c7] = some (e, q) ∧ ∀ B, (∀ n ∈ d.weights Try.prog 26, n ≤ B) → ∀ n ∈ e.weights Try.prog 22, n ≤ B)
    (g : a3.size ≤ 140737488351232 ∧ a4.size ≤ 140737488351232) (wt : ∀ n ∈ d.weights Try.prog 26, n ≤ 140737488351232) (wt' : ∀ n ∈ d.weights Try.prog 26, n ≤ 140737488351232) :
    Calls Try.prog 6 #[.agg #[.int .i64 a0, .int .i64 a1, .int .i64 a2, .string a3, .string a4, .slice a5 n5 c5, .int .i64 a6, .slice a7 n7 c7]] W fun e w' => e = .returned (.bool true) ∧ Below W.heap.size W w' := by
  obtain ⟨p, hp, hr, hpre⟩ := of_came f0 f1 f2 f5 f6 f7 g wt
  rw [hp]
  exact fields_core p a5 a7 c5 c7 hpre W hr
end Go.Proofs.Ytpodidgdlcfaeaa.Ip6

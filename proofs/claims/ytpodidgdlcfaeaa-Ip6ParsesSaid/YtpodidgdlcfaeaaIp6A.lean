/- errors.Is over a wrong that wraps an api.Errno; number. -/
import Derived.Test.YtpodidgdlcfaeaaPIp6Laysx4
import Derived.Stop.Asserts
import Derived.LaidEql
namespace Go.Proofs.Ytpodidgdlcfaeaa.Ip6
open Go.RowKit Go.Extern.Stop Go.Stop Go.Extern Go.Proofs.YtpodidgdlcfaeaaW.PrintWords Go.Proofs.YtpodidgdlcfaeaaW.PrintLast Go.Proofs.YtpodidgdlcfaeaaW.PrintMore
set_option linter.unusedVariables false
set_option linter.unusedSimpArgs false
theorem methodComparable (v : Value) (w : World) : (Go.method 215 71 v "Comparable").run Try.prog w = .ok (57, v) w := by kernel_rfl
theorem methodUnwrap (v : Value) (w : World) : (Go.method 215 61 v "Unwrap").run Try.prog w = .ok (53, v) w := by kernel_rfl
theorem callComparable (w : World) : (callFunc 57 #[.agg #[.pointer (some ⟨0, 27, none⟩)]]).run Try.prog w = .ok (.value (.bool true)) w := by kernel_rfl
theorem callTypeOf (v : Value) (w : World) : (callFunc 34 #[.iface 27 v]).run Try.prog w = .ok (.value (.iface 71 (.agg #[.pointer (some ⟨0, 27, none⟩)]))) w := by kernel_rfl
theorem noIs61 (v : Value) (xT : TypeId) (w : World) : (Instr.typeAssert (.iface 61 v) xT 73 true).run Try.prog w = .ok (.tuple #[.nilIface, .bool false]) w := run_typeAssert_lacksB Try.underlying73 (by kernel_rfl) (by kernel_rfl) v xT w
theorem hasUnwrap61 (v : Value) (xT : TypeId) (w : World) : (Instr.typeAssert (.iface 61 v) xT 76 true).run Try.prog w = .ok (.tuple #[.iface 61 v, .bool true]) w := run_typeAssert_hasB Try.underlying76 (by kernel_rfl) v xT w
theorem noIs27 (v : Value) (xT : TypeId) (w : World) : (Instr.typeAssert (.iface 27 v) xT 73 true).run Try.prog w = .ok (.tuple #[.nilIface, .bool false]) w := run_typeAssert_lacksB Try.underlying73 (by kernel_rfl) (by kernel_rfl) v xT w
theorem noUnwrap27 (v : Value) (xT : TypeId) (w : World) : (Instr.typeAssert (.iface 27 v) xT 76 true).run Try.prog w = .ok (.tuple #[.nilIface, .bool false]) w := run_typeAssert_lacksB Try.underlying76 (by kernel_rfl) (by kernel_rfl) v xT w
theorem noUnwraps27 (v : Value) (xT : TypeId) (w : World) : (Instr.typeAssert (.iface 27 v) xT 78 true).run Try.prog w = .ok (.tuple #[.nilIface, .bool false]) w := run_typeAssert_lacksB Try.underlying78 (by kernel_rfl) (by kernel_rfl) v xT w
theorem comp27 : (Try.prog.info? 27).map (·.comparable) = some true := by kernel_rfl
theorem eqIn27 (c c' : Int) (d : Nat) (w : World) : (Op.equalIn (d + 2) 47 (.iface 27 (.int .i64 c)) (.iface 27 (.int .i64 c'))).run Try.prog w = .ok (c == c') w := by
  obtain ⟨i, hi, hcmp⟩ := Option.map_eq_some_iff.1 comp27
  simp [Op.equalIn, run_underlying Try.underlying47, run_underlying Try.underlying27, typeInfo, hi, hcmp]
theorem eq27 (c c' : Int) (w : World) : (binOp .eql 47 (.iface 27 (.int .i64 c)) (.iface 27 (.int .i64 c'))).run Try.prog w = .ok (.bool (c == c')) w := by
  simp only [binOp]
  simp [Op.equal, Op.maxDepth, eqIn27]
def werr (s : ByteArray) (c : Int) : Value := .iface 61 (.agg #[.string s, .int .i64 c])
set_option maxHeartbeats 4000000 in
set_option maxRecDepth 100000 in
theorem unwrap_walk (s : ByteArray) (c : Int) (w : World) : Calls Try.prog 53 #[.agg #[.string s, .int .i64 c]] w fun e w' => e = .returned (.iface 27 (.int .i64 c)) ∧ Below w.heap.size w w' := by
  go_enter Try.func53, Try.ntmps53
  go_wp2
  go_ret
  exact ⟨rfl, below_alloc (Below.refl _ _) _⟩
set_option maxHeartbeats 4000000 in
set_option maxRecDepth 100000 in
theorem is_walk (s : ByteArray) (c c' : Int) (w : World) : Calls Try.prog 32 #[.iface 61 (.agg #[.string s, .int .i64 c]), .iface 27 (.int .i64 c')] w fun e w' => e = .returned (.bool (decide (c = c'))) ∧ Below w.heap.size w w' := by
  have m1 := methodComparable
  have m2 := methodUnwrap
  have k1 := callComparable
  have k2 := callTypeOf
  have n1 := noIs61
  have n2 := hasUnwrap61
  have n3 := noIs27
  have n4 := noUnwrap27
  have n5 := noUnwraps27
  have hty := run_eql_iface_types (P := Try.prog) 61 27 (.agg #[.string s, .int .i64 c]) (.int .i64 c') Try.underlying47 (by decide)
  have heq := eq27 c c'
  by_cases hc : c = c'
  · subst hc
    have e1 : (c == c) = true := by simp
    rw [show decide (c = c) = true by simp]
    go_enter Try.func32, Try.ntmps32
    go_wp2
    refine wp_loop_rounds 2 ?_
    rw [rounds_succ]
    go_wp2_with (first | (go_at_call 53; refine (unwrap_walk s c w).mono ?_; rintro e w1 ⟨rfl, hb⟩; have HB := Aside0.mk hb; clear hb))
    rw [rounds_succ]
    go_wp2_with (fail)
    go_ret
    exact ⟨rfl, HB.out⟩
  · have e1 : (c == c') = false := by simp [hc]
    rw [decide_eq_false hc]
    clear hc
    go_enter Try.func32, Try.ntmps32
    go_wp2
    refine wp_loop_rounds 2 ?_
    rw [rounds_succ]
    go_wp2_with (first | (go_at_call 53; refine (unwrap_walk s c w).mono ?_; rintro e w1 ⟨rfl, hb⟩; have HB := Aside0.mk hb; clear hb))
    rw [rounds_succ]
    go_wp2_with (fail)
    go_ret
    exact ⟨rfl, HB.out⟩
set_option maxHeartbeats 4000000 in
set_option maxRecDepth 100000 in
theorem is_nil (c : Int) (w : World) : Calls Try.prog 32 #[.nilIface, .iface 27 (.int .i64 c)] w fun e w' => e = .returned (.bool false) ∧ w' = w := by
  have hn := run_eql_iface_nil_left (P := Try.prog) w 27 (.int .i64 c) Try.underlying47
  go_enter Try.func32, Try.ntmps32
  go_wp2
  go_ret
  exact ⟨rfl, rfl⟩
/-- The first of some that an error is. -/
def numL (hit : Int → Bool) (l : List Int) : Int := (l.find? hit).getD 0
theorem numL_miss (hit : Int → Bool) : ∀ (l : List Int), (∀ i, i < l.length → hit (l.getD i 0) = false) → numL hit l = 0
  | [], _ => rfl
  | c :: l, h => by
    have h0 : hit c = false := h 0 (by simp)
    have ih := numL_miss hit l (fun i hi => by simpa using h (i + 1) (by simpa using hi))
    unfold numL at ih ⊢
    rw [List.find?_cons, h0]
    exact ih
theorem numL_hit (hit : Int → Bool) : ∀ (l : List Int) (j : Nat), j < l.length → hit (l.getD j 0) = true → (∀ i, i < j → hit (l.getD i 0) = false) → numL hit l = l.getD j 0
  | [], _, h, _, _ => absurd h (by simp)
  | c :: l, 0, _, hk, _ => by
    have h0 : hit c = true := hk
    unfold numL
    rw [List.find?_cons, h0]
    rfl
  | c :: l, j + 1, hj, hk, hlt => by
    have h0 : hit c = false := by simpa using hlt 0 (by omega)
    have ih := numL_hit hit l j (by simpa using hj) (by simpa using hk) (fun i hi => by simpa using hlt (i + 1) (by omega))
    unfold numL at ih ⊢
    rw [List.find?_cons, h0]
    simpa using ih
set_option maxHeartbeats 4000000 in
set_option maxRecDepth 100000 in
theorem number_walk (x : Value) (hit : Int → Bool) (his : ∀ (c : Int) (W : World), Calls Try.prog 32 #[x, .iface 27 (.int .i64 c)] W fun e w' => e = .returned (.bool (hit c)) ∧ Below W.heap.size W w')
    (q : Nat) (l : List Int) (hl : l.length ≤ 100) (w : World) (hq : w.heap[q]? = some (.cells (l.map (Value.int .i64)).toArray 27 (0, 0))) :
    Calls Try.prog 21 #[x, .slice (some ⟨q, 0, none⟩) l.length l.length] w fun e w' => e = .returned (.int .i64 (numL hit l)) ∧ Below w.heap.size w w' := by
  have IS := Aside0.mk his
  have HQ := Aside0.mk hq
  obtain ⟨N, hN⟩ : ∃ N, l.length = N := ⟨_, rfl⟩
  have HN := Aside0.mk hN
  rw [hN] at hl ⊢
  clear his hq hN
  go_enter Try.func21, Try.ntmps21
  go_wp2
  go_loopw [9] (fun i wr => ∃ j : Nat, j ≤ N ∧ i = .int .i64 j ∧ Aside0 (Below w.heap.size w wr) ∧ Aside0 (∀ i, i < j → hit (l.getD i 0) = false)) (fun i _ => N - (intOf i).toNat)
  case atStart => exact ⟨0, by omega, rfl, Aside0.mk (Below.refl _ _), Aside0.mk (fun i hi => absurd hi (by omega))⟩
  case round =>
    obtain ⟨j, hj, rfl, HB, HP⟩ := hrel
    by_cases hjl : j < N
    · have hd : decide ((j : Int) < (N : Int)) = true := by simp; omega
      have hb2 := blk_below HQ.out HB.out
      have hcell : wr.cell? ⟨q, j, none⟩ = some (.int .i64 (l.getD j 0)) := by
        rw [blk_cell hb2 j]
        have hjn : j < l.length := by rw [HN.out]; exact hjl
        simp [List.getElem?_eq_getElem hjn, List.getD_eq_getElem?_getD]
      obtain ⟨c, hc⟩ : ∃ c, l.getD j 0 = c := ⟨_, rfl⟩
      have HC := Aside0.mk hc
      rw [hc] at hcell
      have IS2 := Aside0.mk (IS.out c)
      clear hb2 hc
      cases hh : hit c with
      | true =>
        rw [hh] at IS2
        have HH := Aside0.mk hh
        clear hh
        go_wp2_with (first | (go_at_call 32; refine (IS2.out _).mono ?_; rintro e w1 ⟨rfl, hb⟩; have HB1 := Aside0.mk (HB.out.trans (hb.mono HB.out.size)); clear hb))
        go_ret
        have e : numL hit l = c := by rw [numL_hit hit l j (by rw [HN.out]; exact hjl) (by rw [HC.out]; exact HH.out) HP.out, HC.out]
        rw [e]
        exact ⟨rfl, HB1.out⟩
      | false =>
        rw [hh] at IS2
        have HH := Aside0.mk hh
        clear hh
        go_wp2_with (first | (go_at_call 32; refine (IS2.out _).mono ?_; rintro e w1 ⟨rfl, hb⟩; have HB1 := Aside0.mk (HB.out.trans (hb.mono HB.out.size)); clear hb))
        go_round
        case rel => exact ⟨j + 1, hjl, by go_num, HB1, Aside0.mk (fun i hi => by
          rcases Nat.lt_succ_iff_lt_or_eq.mp hi with hi | rfl
          · exact HP.out i hi
          · rw [HC.out]; exact HH.out)⟩
        case measure => simp [intOf]; omega
    · have hd : decide ((j : Int) < (N : Int)) = false := by simp; omega
      have e : numL hit l = 0 := numL_miss hit l (fun i hi => HP.out i (by have := HN.out; omega))
      have E := Aside0.mk e
      clear e
      go_wp2
      go_ret
      rw [E.out]
      exact ⟨rfl, HB.out⟩
end Go.Proofs.Ytpodidgdlcfaeaa.Ip6

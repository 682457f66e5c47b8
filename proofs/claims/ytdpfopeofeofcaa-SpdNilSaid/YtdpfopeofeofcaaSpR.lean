/- slices.Delete of one route. -/
import Derived.Test.YtdpfopeofeofcaaSpQ
namespace Go.Proofs.Ytdpfopeofeofcaa.Sp
open Go.RowKit Go.Proofs.YtdpfopeofeofcaaW.PrintWords Go.Proofs.YtdpfopeofeofcaaW.PrintLast Go.Proofs.YtdpfopeofeofcaaW.PrintMore Go.Proofs.Ytdpfopeofeofcaa.QSp
open Go.Proofs.Ytdpfopeofeofcaa
set_option linter.unusedVariables false
set_option linter.unusedSimpArgs false
section
variable {P : Program} {ops : Array Oper} {rest : List Oper} {Q : Exit → Act → World → Prop}
/-- The builtin clear whose run is known, in a plain region. -/
theorem clearL_ {o : Oper} {a : Act} {w : World} (hgd : o.guard = none) (s : Operand) (t : TypeId)
    (ho : o.op = .call { callee := .builtin .clear, args := #[s], argTypes := #[t] }) (v : Value) (hs : a.eval s = v) {v' : Value} {w' : World}
    (hr : (Builtin.clear_ #[t] o.type #[v]).run P w = .ok v' w') (h : wpList P ops Q rest (a.put o.dst v') w') : wpList P ops Q (o :: rest) a w := by
  refine wpList_plain hgd fun K hK => ?_
  unfold Oper.wp execOp
  simp only [ho, resolve, invoke, builtin, Sem.run_bind, Sem.run_pure, Result.andThen_ok, List.map_toArray, List.map_cons, List.map_nil, hs, hr]
  exact hK _ _ h
theorem run_clear_rowZ (w : World) (t ty e : TypeId) (i : TypeInfo) (z : Value) (ht : P.underlying t = some (.slice e)) (hi : P.info? e = some i) (hz : i.zero = some z) (g o n c : Nat) (hn : 0 < n) (cur : Array Value) (t' : TypeId) (hg : w.heap[g]? = some (.cells cur t' (0, 0)))
    (hfit : o + (Builtin.zeroCells z.cells n).toList.length ≤ cur.size) (h1 : ∀ v ∈ (Builtin.zeroCells z.cells n).toList, v.oneCell' = true) :
    (Builtin.clear_ #[t] ty #[.slice (some ⟨g, o, none⟩) n c]).run P w = .ok (.tuple #[]) (w.setRow g (spl cur.toList o (Builtin.zeroCells z.cells n).toList).toArray) := by
  have hst := run_storeCells_at P g o t' (Builtin.zeroCells z.cells n).toList 0 cur w hg (by simpa using hfit) h1
  obtain ⟨k, rfl⟩ : ∃ k, n = k + 1 := ⟨n - 1, by omega⟩
  simp only [Nat.add_zero] at hst
  simp [Builtin.clear_, run_underlying ht, zeroValue, typeInfo, hi, hz, hst, spl]
end
/-- What Delete leaves. -/
def DelP (w : World) (base g c n : Nat) (l' : List S35) (e : Ending) (w' : World) : Prop :=
  e = .returned (.slice (some ⟨g, 0, none⟩) n c) ∧ OwnT w' base (.slice (some ⟨g, 0, none⟩) n c) l' ∧ w.grownBy w' (some g)
set_option maxHeartbeats 1600000 in
set_option maxRecDepth 100000 in
theorem delete_walk (base g c : Nat) (l : List S35) (i : Nat) (w : World) (h : OwnT w base (.slice (some ⟨g, 0, none⟩) l.length c) l) (hlim : l.length ≤ 1000) (hi : i < l.length) (hbase : base ≤ w.heap.size) :
    Calls Try.prog 16 #[.slice (some ⟨g, 0, none⟩) l.length c, .int .i64 i, .int .i64 ((i : Int) + 1)] w (DelP w base g c (l.length - 1) (l.eraseIdx i)) := by
  obtain ⟨n, hn⟩ : ∃ n, l.length = n := ⟨_, rfl⟩
  have hel : (l.eraseIdx i).length = n - 1 := by rw [List.length_eraseIdx_of_lt hi, hn]
  have hR : k35.R 35 w.drew base (fun _ => True) (.slice (some ⟨g, 0, none⟩) n c) l := by rw [← hn]; exact Kd.R_drew (R_of_own h)
  have hnc : n ≤ c := by rw [← hn]; exact (Kd.R_reads' (R_of_own h)).2.1
  have hcm : c ≤ maxLen := by
    obtain ⟨g', cur, _, _, _, _, _, h1, _⟩ := own_form h (by omega)
    exact h1
  rw [hn] at hlim hi ⊢
  unfold maxLen at hcm
  have HR := Aside0.mk hR
  have HB := Aside0.mk hbase
  have HE := Aside0.mk hel
  clear h hR hbase hel hn
  obtain ⟨m, rfl⟩ : ∃ m, n = m + 1 := ⟨n - 1, by omega⟩
  rw [Nat.add_sub_cancel] at HE ⊢
  have F1 := Aside0.mk (show ∀ W, k35.R 35 W base (fun _ => True) (.slice (some ⟨g, 0, none⟩) m c) (l.eraseIdx i) → w.drew.grownBy W (some g) → ∃ W', (∀ ty, (Builtin.clear_ #[41] ty #[.slice (some ⟨g, m * 16, none⟩) 1 (c - m)]).run Try.prog W = .ok (.tuple #[]) W') ∧ DelP w base g c m (l.eraseIdx i) (.returned (.slice (some ⟨g, 0, none⟩) m c)) W' from fun W ho hg => by
    have ho := own_of_R ho
    obtain ⟨i0, hi0, hz0, hzs, hzb⟩ := info_parts info35
    rcases ho.2 with ⟨hv, _⟩ | ⟨g', cap, cur, hv, hb, hh, h1, h2, h3, h4⟩
    · cases hv
    · injection hv with ha hx hc
      injection ha with ha
      injection ha with ha
      subst ha; subst hc
      have hcl : cur.toList.length = c * 16 := by rw [Array.length_toList, h3]
      have hz : (Builtin.zeroCells (Value.agg #[.int .i64 0, .string ByteArray.empty, .string ByteArray.empty, .string ByteArray.empty, .string ByteArray.empty, .int .i64 0, .int .i64 0, .int .i64 0, .int .i64 0, .int .i64 0, .bool false, .bool false, .int .i64 0, .bool false, .string ByteArray.empty, .string ByteArray.empty]).cells 1).toList.length = 16 := by rw [Array.length_toList, zc_size]
      refine ⟨_, fun ty => run_clear_rowZ W 41 ty 35 i0 _ Try.underlying41 hi0 hz0 g (m * 16) 1 (c - m) (by omega) cur 35 hh (by rw [hz, h3]; omega) (fun v hv => ?_), rfl, ⟨ho.1, .inr ⟨g, c, _, by rw [HE.out], hb, setRow_heap _ _ _ _ _ _ hh, h1, h2, ?_, ?_⟩⟩, ?_⟩
      · have e : (Builtin.zeroCells (Value.agg #[.int .i64 0, .string ByteArray.empty, .string ByteArray.empty, .string ByteArray.empty, .string ByteArray.empty, .int .i64 0, .int .i64 0, .int .i64 0, .int .i64 0, .int .i64 0, .bool false, .bool false, .int .i64 0, .bool false, .string ByteArray.empty, .string ByteArray.empty]).cells 1).toList = [.int .i64 0, .string ByteArray.empty, .string ByteArray.empty, .string ByteArray.empty, .string ByteArray.empty, .int .i64 0, .int .i64 0, .int .i64 0, .int .i64 0, .int .i64 0, .bool false, .bool false, .int .i64 0, .bool false, .string ByteArray.empty, .string ByteArray.empty] := by kernel_rfl
        rw [e] at hv
        simp only [List.mem_cons, List.not_mem_nil, or_false] at hv
        rcases hv with rfl | rfl | rfl | rfl | rfl | rfl | rfl | rfl | rfl | rfl | rfl | rfl | rfl | rfl | rfl | rfl <;> rfl
      · show (spl _ _ _).length = _
        rw [spl_len _ _ _ (by rw [hz, hcl]; omega), hcl]
      · rw [← h4, HE.out]
        show (spl _ _ _).take _ = _
        unfold spl
        rw [List.append_assoc, List.take_append_of_le_length (by rw [List.length_take, hcl]; omega), List.take_take, Nat.min_self]
      · refine ⟨hg.os, hg.tape, hg.output, by rw [setRow_size]; exact hg.size, fun k hk hr => ?_⟩
        rw [setRow_other _ _ _ _ (fun e => hr (by rw [e]))]
        exact hg.block k hk hr)
  have hb0 : (0 : Int) ≤ (i : Int) + 1 := by omega
  have hb1 : (i : Int) ≤ (i : Int) + 1 := by omega
  have hb2 : (i : Int) + 1 ≤ (m : Int) + 1 := by omega
  have hb3 : (m : Int) + 1 ≤ (c : Int) := by omega
  have hb4 : ¬ ((i : Int) = (i : Int) + 1) := by omega
  have htn : ((i : Int) + 1).toNat = i + 1 := by omega
  have hb5 : i ≤ c := by omega
  have hb6 : i + 1 ≤ c := by omega
  have hb7 : i ≤ m + 1 := by omega
  have hb8 : i + 1 ≤ m + 1 := by omega
  by_cases hc : c = i + 1
  · obtain rfl : m = i := by omega
    subst hc
    go_enter Try.func16, Try.ntmps16
    go_wp2_with (fail)
    refine start_ (n := 8) (S := fun _ => True) (ds := []) #[false, false, false, false, false, false, false, false] (by kernel_rfl) rfl rfl trivial (fun hHeld => ?_)
    refine pure_ (i := 0) (N := some 20) (v := ?_) (a' := ?_) #[true, false, false, false, false, false, false, false] rfl rfl (by kernel_rfl) (fun _ _ _ h => h) (Or.inl ⟨by rfl, ?_⟩) ?_ ?_
    rotate_left
    · intro w'
      go_simp
      with_reducible rfl
    rotate_left
    · simp only [Act.put, List.setIfInBounds_toArray, List.set_cons_zero, List.set_cons_succ]
      rfl
    refine pure_ (i := 1) (N := some 21) (v := ?_) (a' := ?_) #[true, true, false, false, false, false, false, false] rfl rfl (by kernel_rfl) (fun _ _ _ h => h) (Or.inl ⟨by rfl, ?_⟩) ?_ ?_
    rotate_left
    · intro w'
      go_simp
      with_reducible rfl
    rotate_left
    · simp only [Act.put, List.setIfInBounds_toArray, List.set_cons_zero, List.set_cons_succ]
      rfl
    refine pure_ (i := 2) (N := some 22) (v := ?_) (a' := ?_) #[true, true, true, false, false, false, false, false] rfl rfl (by kernel_rfl) (fun _ _ _ h => h) (Or.inl ⟨by rfl, ?_⟩) ?_ ?_
    rotate_left
    · intro w'
      go_simp
      with_reducible rfl
    rotate_left
    · simp only [Act.put, List.setIfInBounds_toArray, List.set_cons_zero, List.set_cons_succ]
      rfl
    refine pure_ (i := 3) (N := some 23) (v := ?_) (a' := ?_) #[true, true, true, true, false, false, false, false] rfl rfl (by kernel_rfl) (fun _ _ _ h => h) (Or.inl ⟨by rfl, ?_⟩) ?_ ?_
    rotate_left
    · intro w'
      go_simp
      with_reducible rfl
    rotate_left
    · simp only [Act.put, List.setIfInBounds_toArray, List.set_cons_zero, List.set_cons_succ]
      rfl
    refine pure_ (i := 4) (N := some 24) (v := ?_) (a' := ?_) #[true, true, true, true, true, false, false, false] rfl rfl (by kernel_rfl) (fun _ _ _ h => h) (Or.inl ⟨by rfl, ?_⟩) ?_ ?_
    rotate_left
    · intro w'
      go_simp
      with_reducible rfl
    rotate_left
    · simp only [Act.put, List.setIfInBounds_toArray, List.set_cons_zero, List.set_cons_succ]
      rfl
    refine pure_ (i := 5) (N := some 25) (v := ?_) (a' := ?_) #[true, true, true, true, true, true, false, false] rfl rfl (by kernel_rfl) (fun _ _ _ h => h) (Or.inl ⟨by rfl, ?_⟩) ?_ ?_
    rotate_left
    · intro w'
      go_simp
      with_reducible rfl
    rotate_left
    · simp only [Act.put, List.setIfInBounds_toArray, List.set_cons_zero, List.set_cons_succ]
      rfl
    refine one_ (i := 6) (N := some 26) #[true, true, true, true, true, true, true, false] rfl rfl (by kernel_rfl) (by decide) (fun K hK => ?_)
    refine Kd.R_delete_step k35 (w0 := w) base (by rfl) (.tmp 22) (.tmp 25) 41 35 rfl Try.underlying41 size35 (g := g) (n := (m + 1)) (c := (m + 1)) (k := m) (m := 0) (c2 := 0) (A := some ⟨g, 0, none⟩) rfl rfl (by first | rw [if_pos rfl] | (rw [if_neg hc, Option.map_some, add_plain]; rfl)) (by omega) HR.out (by omega) (below_drew (Below.refl _ _ |>.mono HB.out)) HB.out ?_
    intro w1 ho hb hg
    obtain ⟨W2, HC, HP⟩ := F1.out _ ho hg
    rw [show m + 1 - m = 1 by omega] at HC
    have HC := Aside0.mk HC
    have HP := Aside0.mk HP
    clear ho hb hg
    refine hK.out _ _ trivial (fun _ => ?_)
    clear hK K
    refine norm_ (a' := ?_) ?_ ?_
    rotate_left
    · show Act.put _ (some 26) _ = _
      simp only [Act.put, List.setIfInBounds_toArray, List.set_cons_zero, List.set_cons_succ]
      rfl
    refine pure_ (i := 7) (N := some 0) (v := ?_) (a' := ?_) #[true, true, true, true, true, true, true, true] rfl rfl (by kernel_rfl) (fun _ _ _ h => h) (Or.inl ⟨by rfl, ?_⟩) ?_ ?_
    rotate_left
    · intro w'
      go_simp
      with_reducible rfl
    rotate_left
    · simp only [Act.put, List.setIfInBounds_toArray, List.set_cons_zero, List.set_cons_succ]
      rfl
    refine done_ (by kernel_rfl) ?_
    simp only [Exit.inBlock, Exit.then]
    have hb9 : (m : Int) + 1 ≤ ((m : Int) + 1) := by omega
    have hb10 : (m : Int) ≤ (m : Int) + 1 := by omega
    have hb11 : m ≤ m + 1 := by omega
    have hb12 : ¬ (m + 1 = m) := by omega
    have hb13 : ¬ (m = m + 1) := by omega
    go_wp2_with (first | ((with_reducible refine gate_builtin (b := .clear) (xs := #[.tmp 31]) rfl ?_); refine clearL_ rfl (.tmp 31) 22 rfl _ rfl (HC.out _) ?_))
    go_ret
    exact HP.out
  · have hc' : ¬ (i + 1 = c) := fun h => hc h.symm
    go_enter Try.func16, Try.ntmps16
    go_wp2_with (fail)
    refine start_ (n := 8) (S := fun _ => True) (ds := []) #[false, false, false, false, false, false, false, false] (by kernel_rfl) rfl rfl trivial (fun hHeld => ?_)
    refine pure_ (i := 0) (N := some 20) (v := ?_) (a' := ?_) #[true, false, false, false, false, false, false, false] rfl rfl (by kernel_rfl) (fun _ _ _ h => h) (Or.inl ⟨by rfl, ?_⟩) ?_ ?_
    rotate_left
    · intro w'
      go_simp
      with_reducible rfl
    rotate_left
    · simp only [Act.put, List.setIfInBounds_toArray, List.set_cons_zero, List.set_cons_succ]
      rfl
    refine pure_ (i := 1) (N := some 21) (v := ?_) (a' := ?_) #[true, true, false, false, false, false, false, false] rfl rfl (by kernel_rfl) (fun _ _ _ h => h) (Or.inl ⟨by rfl, ?_⟩) ?_ ?_
    rotate_left
    · intro w'
      go_simp
      with_reducible rfl
    rotate_left
    · simp only [Act.put, List.setIfInBounds_toArray, List.set_cons_zero, List.set_cons_succ]
      rfl
    refine pure_ (i := 2) (N := some 22) (v := ?_) (a' := ?_) #[true, true, true, false, false, false, false, false] rfl rfl (by kernel_rfl) (fun _ _ _ h => h) (Or.inl ⟨by rfl, ?_⟩) ?_ ?_
    rotate_left
    · intro w'
      go_simp
      with_reducible rfl
    rotate_left
    · simp only [Act.put, List.setIfInBounds_toArray, List.set_cons_zero, List.set_cons_succ]
      rfl
    refine pure_ (i := 3) (N := some 23) (v := ?_) (a' := ?_) #[true, true, true, true, false, false, false, false] rfl rfl (by kernel_rfl) (fun _ _ _ h => h) (Or.inl ⟨by rfl, ?_⟩) ?_ ?_
    rotate_left
    · intro w'
      go_simp
      with_reducible rfl
    rotate_left
    · simp only [Act.put, List.setIfInBounds_toArray, List.set_cons_zero, List.set_cons_succ]
      rfl
    refine pure_ (i := 4) (N := some 24) (v := ?_) (a' := ?_) #[true, true, true, true, true, false, false, false] rfl rfl (by kernel_rfl) (fun _ _ _ h => h) (Or.inl ⟨by rfl, ?_⟩) ?_ ?_
    rotate_left
    · intro w'
      go_simp
      with_reducible rfl
    rotate_left
    · simp only [Act.put, List.setIfInBounds_toArray, List.set_cons_zero, List.set_cons_succ]
      rfl
    refine pure_ (i := 5) (N := some 25) (v := ?_) (a' := ?_) #[true, true, true, true, true, true, false, false] rfl rfl (by kernel_rfl) (fun _ _ _ h => h) (Or.inl ⟨by rfl, ?_⟩) ?_ ?_
    rotate_left
    · intro w'
      go_simp
      with_reducible rfl
    rotate_left
    · simp only [Act.put, List.setIfInBounds_toArray, List.set_cons_zero, List.set_cons_succ]
      rfl
    refine one_ (i := 6) (N := some 26) #[true, true, true, true, true, true, true, false] rfl rfl (by kernel_rfl) (by decide) (fun K hK => ?_)
    refine Kd.R_delete_step k35 (w0 := w) base (by rfl) (.tmp 22) (.tmp 25) 41 35 rfl Try.underlying41 size35 (g := g) (n := (m + 1)) (c := c) (k := i) (m := m - i) (c2 := c - (i + 1)) (A := some ⟨g, (i + 1) * 16, none⟩) rfl rfl (by first | rw [if_pos rfl] | (rw [if_neg hc, Option.map_some, add_plain]; rfl)) (by omega) HR.out (by omega) (below_drew (Below.refl _ _ |>.mono HB.out)) HB.out ?_
    intro w1 ho hb hg
    obtain ⟨W2, HC, HP⟩ := F1.out _ ho hg
    have HC := Aside0.mk HC
    have HP := Aside0.mk HP
    clear ho hb hg
    refine hK.out _ _ trivial (fun _ => ?_)
    clear hK K
    refine norm_ (a' := ?_) ?_ ?_
    rotate_left
    · show Act.put _ (some 26) _ = _
      simp only [Act.put, List.setIfInBounds_toArray, List.set_cons_zero, List.set_cons_succ]
      rfl
    refine pure_ (i := 7) (N := some 0) (v := ?_) (a' := ?_) #[true, true, true, true, true, true, true, true] rfl rfl (by kernel_rfl) (fun _ _ _ h => h) (Or.inl ⟨by rfl, ?_⟩) ?_ ?_
    rotate_left
    · intro w'
      go_simp
      with_reducible rfl
    rotate_left
    · simp only [Act.put, List.setIfInBounds_toArray, List.set_cons_zero, List.set_cons_succ]
      rfl
    refine done_ (by kernel_rfl) ?_
    simp only [Exit.inBlock, Exit.then]
    have hb9 : (m : Int) + 1 ≤ (c : Int) := by omega
    have hb10 : (m : Int) ≤ (m : Int) + 1 := by omega
    have hb11 : m ≤ m + 1 := by omega
    have hb12 : ¬ (c = m) := by omega
    have hb13 : ¬ (m = c) := by omega
    go_wp2_with (first | ((with_reducible refine gate_builtin (b := .clear) (xs := #[.tmp 31]) rfl ?_); refine clearL_ rfl (.tmp 31) 22 rfl _ rfl (HC.out _) ?_))
    go_ret
    exact HP.out
end Go.Proofs.Ytdpfopeofeofcaa.Sp

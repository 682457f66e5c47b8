/- slices.Insert of one route among others. slices.Delete of one route. (Texts of this session, put together by wip/tools/merge.py.) -/
import Derived.Test.YtdpfopeofeofcaaSpM1
namespace Go.Proofs.Ytdpfopeofeofcaa.Sp
open Go.RowKit Go.Proofs.YtdpfopeofeofcaaW.PrintWords Go.Proofs.YtdpfopeofeofcaaW.PrintLast Go.Proofs.YtdpfopeofeofcaaW.PrintMore Go.Proofs.Ytdpfopeofeofcaa.QSp
open Go.Proofs.Ytdpfopeofeofcaa
set_option linter.unusedVariables false
set_option linter.unusedSimpArgs false
section
variable {P : Program} {ops : Array Oper} {rest : List Oper} {Q : Exit → Act → World → Prop}
/-- The builtin copy whose run is known, in a plain region. -/
theorem copyL_ {o : Oper} {a : Act} {w : World} (hgd : o.guard = none) (d s : Operand) (t t' : TypeId)
    (ho : o.op = .call { callee := .builtin .copy, args := #[d, s], argTypes := #[t, t'] }) (v u : Value) (hd : a.eval d = v) (hs : a.eval s = u) {v' : Value} {w' : World}
    (hr : (Builtin.copy_ #[t, t'] o.type #[v, u]).run P w = .ok v' w') (h : wpList P ops Q rest (a.put o.dst v') w') : wpList P ops Q (o :: rest) a w := by
  refine wpList_plain hgd fun K hK => ?_
  unfold Oper.wp execOp
  simp only [ho, resolve, invoke, builtin, Sem.run_bind, Sem.run_pure, Result.andThen_ok, List.map_toArray, List.map_cons, List.map_nil, hd, hs, hr]
  exact hK _ _ h
/-- The same as a step of a drawn region. -/
theorem copyE_ {oi : Oper} {N : Option Tmp} {a : Act} {w : World} {K : Act → World → Prop} (hw : Region.wanted oi (yielded ops a.tmps) = true) (hN : oi.dst = N) (d s : Operand) (t t' : TypeId)
    (ho : oi.op = .call { callee := .builtin .copy, args := #[d, s], argTypes := #[t, t'] }) (v u : Value) (hd : a.eval d = v) (hs : a.eval s = u) {v' : Value} {w' : World}
    (hr : (Builtin.copy_ #[t, t'] oi.type #[v, u]).run P w = .ok v' w') (h : K (a.put N v') w') : if Region.wanted oi (yielded ops a.tmps) = true then Oper.wp P oi a w K Q else K (a.put N undef) w := by
  rw [if_pos hw]
  subst hN
  unfold Oper.wp execOp
  simp only [ho, resolve, invoke, builtin, Sem.run_bind, Sem.run_pure, Result.andThen_ok, List.map_toArray, List.map_cons, List.map_nil, hd, hs, hr]
  exact h
end
theorem size35 : (Try.prog.info? 35).map (·.size) = some 16 := by kernel_rfl
/-- Written into the middle. -/
def spl (cur : List Value) (o : Nat) (cs : List Value) : List Value := cur.take o ++ cs ++ cur.drop (o + cs.length)
theorem spl_len (cur : List Value) (o : Nat) (cs : List Value) (h : o + cs.length ≤ cur.length) : (spl cur o cs).length = cur.length := by
  unfold spl
  simp only [List.length_append, List.length_take, List.length_drop]
  omega
theorem shift_list (cur E X : List Value) (n i : Nat) (hE : E.length = n * 16) (hX : X.length = 16) (hi : i < n) (hc : (n + 1) * 16 ≤ cur.length) (ht : cur.take (n * 16) = E) :
    (spl (spl cur ((i + 1) * 16) (E.drop (i * 16))) (i * 16) X).take ((n + 1) * 16) = E.take (i * 16) ++ X ++ E.drop (i * 16) := by
  have h1 : (cur.take ((i + 1) * 16)).length = (i + 1) * 16 := by rw [List.length_take]; omega
  have h2 : (E.drop (i * 16)).length = (n - i) * 16 := by rw [List.length_drop, hE]; omega
  have e0 : (spl cur ((i + 1) * 16) (E.drop (i * 16))).take (i * 16) = E.take (i * 16) := by
    unfold spl
    rw [List.append_assoc, List.take_append_of_le_length (by omega), List.take_take, Nat.min_eq_left (by omega), ← ht, List.take_take, Nat.min_eq_left (by omega)]
  have e1 : (spl cur ((i + 1) * 16) (E.drop (i * 16))).drop (i * 16 + X.length) = E.drop (i * 16) ++ cur.drop ((i + 1) * 16 + (E.drop (i * 16)).length) := by
    unfold spl
    rw [hX, show i * 16 + 16 = (i + 1) * 16 by omega, List.append_assoc]
    exact List.drop_left' h1
  rw [spl, e0, e1, ← List.append_assoc]
  exact List.take_left' (by simp only [List.length_append, List.length_take, hE, hX, h2]; omega)
theorem grow_list (R E X : List Value) (n i : Nat) (hE : E.length = n * 16) (hX : X.length = 16) (hi : i < n) (hc : (n + 1) * 16 ≤ R.length) (ht : R.take (i * 16) = E.take (i * 16)) :
    (spl (spl R (i * 16) X) ((i + 1) * 16) (E.drop (i * 16))).take ((n + 1) * 16) = E.take (i * 16) ++ X ++ E.drop (i * 16) := by
  have h1 : (R.take (i * 16)).length = i * 16 := by rw [List.length_take]; omega
  have h2 : (E.drop (i * 16)).length = (n - i) * 16 := by rw [List.length_drop, hE]; omega
  have e0 : (spl R (i * 16) X).take ((i + 1) * 16) = E.take (i * 16) ++ X := by
    unfold spl
    rw [← ht]
    exact List.take_left' (by simp only [List.length_append, h1, hX]; omega)
  rw [spl, e0]
  exact List.take_left' (by simp only [List.length_append, List.length_take, hE, hX, h2]; omega)
set_option maxHeartbeats 1600000 in
set_option maxRecDepth 100000 in
theorem insert_shift (base vb g : Nat) (c : Nat) (cur : Array Value) (l : List S35) (x : S35) (i : Nat) (w : World) (hg : w.heap[g]? = some (.cells cur 35 (0, 0))) (hcs : cur.size = c * 16) (hcm : c ≤ maxLen) (hb : base ≤ g) (ht : cur.toList.take (l.length * 16) = encs35 l)
    (hv : w.heap[vb]? = some (.cells (enc35 x).toArray 35 (0, 0))) (hne : vb ≠ g) (hlim : l.length ≤ 1000) (hi : i < l.length) (hroom : l.length + 1 ≤ c) :
    Calls Try.prog 18 #[.slice (some ⟨g, 0, none⟩) l.length c, .int .i64 i, .slice (some ⟨vb, 0, none⟩) 1 1] w (InsP w base (.slice (some ⟨g, 0, none⟩) l.length c) (l.take i ++ x :: l.drop i)) := by
  have HX : (enc35 x).length = 16 := rfl
  obtain ⟨n, hn⟩ : ∃ n, l.length = n := ⟨_, rfl⟩
  have HE : (encs35 l).length = n * 16 := by rw [encs_len, hn]
  rw [hn] at ht hlim hi hroom ⊢
  unfold maxLen at hcm
  have hov : ∀ lb cb, (callFunc 26 #[.slice (some ⟨vb, 0, none⟩) 1 1, .slice (some ⟨g, (i + 1) * 16, none⟩) lb cb]).run Try.prog w = .ok (.value (.bool false)) w := fun lb cb => by
    rw [run_callFunc_extern (fn := Try.f26) (by kernel_rfl) (by kernel_rfl) (by kernel_rfl) (by kernel_rfl) (e := Extern.SlicesOverlaps.overlaps #[41, 41] #[4]) (by kernel_rfl),
      Lib.run_overlaps_apart w 41 4 35 Try.underlying41 16 (fun W => by simp [sizeOf, typeInfo]; kernel_rfl) ⟨vb, 0, none⟩ ⟨g, (i + 1) * 16, none⟩ 1 1 lb cb hne 35 35 16 (c * 16) (by simp [World.shape?, hv, enc35]) (by simp [World.shape?, hg, hcs]) (by omega) (blk_frozen hv 0) (blk_frozen hv 16)]
    rfl
  have HOV := hov
  have hDl : ((encs35 l).drop (i * 16)).length = (n - i) * 16 := by rw [List.length_drop, HE]; omega
  have hcl : cur.toList.length = c * 16 := by rw [Array.length_toList, hcs]
  obtain ⟨cur1, hc1⟩ : ∃ C : Array Value, (spl cur.toList ((i + 1) * 16) ((encs35 l).drop (i * 16))).toArray = C := ⟨_, rfl⟩
  obtain ⟨cur2, hc2⟩ : ∃ C : Array Value, (spl cur1.toList (i * 16) (enc35 x)).toArray = C := ⟨_, rfl⟩
  have hl1 : cur1.size = c * 16 := by rw [← hc1]; show (spl _ _ _).length = _; rw [spl_len _ _ _ (by omega), hcl]
  have hl2 : cur2.size = c * 16 := by rw [← hc2]; show (spl _ _ _).length = _; rw [spl_len _ _ _ (show i * 16 + 16 ≤ cur1.toList.length by rw [Array.length_toList, hl1]; omega), Array.length_toList, hl1]
  have ht2 : cur2.toList.take ((n + 1) * 16) = encs35 (l.take i ++ x :: l.drop i) := by
    rw [← hc2, ← hc1]
    show (spl (spl _ _ _) _ _).take _ = _
    rw [shift_list cur.toList (encs35 l) (enc35 x) n i HE HX hi (by rw [hcl]; omega) ht, encs_take l i (by omega), encs_drop l i (by omega), encs_append, encs_cons, List.append_assoc]
  have R1 : ∀ ty, (Builtin.copy_ #[41, 41] ty #[.slice (some ⟨g, (i + 1) * 16, none⟩) (n - i) (c - (i + 1)), .slice (some ⟨g, i * 16, none⟩) (n + 1 - i) (c - i)]).run Try.prog w.drew = .ok (goInt (Nat.min (n + 1 - i) (n - i))) (w.drew.setRow g cur1) := fun ty => by
    rw [← hc1]
    refine CopyRows.run_copy_rowZ w.drew 41 41 ty 35 g ((i + 1) * 16) (n - i) (c - (i + 1)) ⟨g, i * 16, none⟩ (n + 1 - i) (c - i) cur 35 ((encs35 l).drop (i * 16)) 16 Try.underlying41 size35 hg (by rw [hDl, show Nat.min (n + 1 - i) (n - i) = n - i from Nat.min_eq_right (by omega)]) (fun j v hj => ?_) (by rw [hDl, hcs]; omega) (fun v hv' => encs_one l v (List.mem_of_mem_drop hv'))
    have hjl := (List.getElem?_eq_some_iff.1 hj).1
    rw [add_at, show (w.drew).cell? ⟨g, i * 16 + j, none⟩ = w.cell? ⟨g, i * 16 + j, none⟩ from rfl, blk_cell hg, ← Array.getElem?_toList]
    rw [List.getElem?_drop, ← ht, List.getElem?_take] at hj
    split at hj
    · exact hj
    · cases hj
  have hG1 : (w.drew.setRow g cur1).heap[g]? = some (.cells cur1 35 (0, 0)) := setRow_heap _ _ _ _ _ _ hg
  have hV1 : (w.drew.setRow g cur1).heap[vb]? = some (.cells (enc35 x).toArray 35 (0, 0)) := (setRow_other _ _ _ _ hne).trans hv
  obtain ⟨W1, hW1⟩ : ∃ W1, w.drew.setRow g cur1 = W1 := ⟨_, rfl⟩
  rw [hW1] at R1 hG1 hV1
  have R2 : ∀ ty, (Builtin.copy_ #[41, 41] ty #[.slice (some ⟨g, i * 16, none⟩) (n + 1 - i) (c - i), .slice (some ⟨vb, 0, none⟩) 1 1]).run Try.prog W1 = .ok (goInt (Nat.min 1 (n + 1 - i))) (W1.setRow g cur2) := fun ty => by
    rw [← hc2]
    refine CopyRows.run_copy_rowZ W1 41 41 ty 35 g (i * 16) (n + 1 - i) (c - i) ⟨vb, 0, none⟩ 1 1 cur1 35 (enc35 x) 16 Try.underlying41 size35 hG1 (by rw [HX, show Nat.min 1 (n + 1 - i) = 1 from Nat.min_eq_left (by omega)]) (fun j v hj => ?_) (by rw [HX, hl1]; omega) (enc_one x)
    rw [add_at, Nat.zero_add, blk_cell hV1]
    simpa using hj
  have HF := Aside0.mk (show InsP w base (.slice (some ⟨g, 0, none⟩) n c) (l.take i ++ x :: l.drop i) (.returned (.slice (some ⟨g, 0, none⟩) (n + 1) c)) (W1.setRow g cur2) from by
    have hlen : (l.take i ++ x :: l.drop i).length = n + 1 := by simp only [List.length_append, List.length_take, List.length_cons, List.length_drop, hn]; omega
    refine ⟨_, rfl, ⟨encs_len _, Or.inr ⟨g, c, cur2, by rw [hlen], hb, setRow_heap _ _ _ _ _ _ hG1, by omega, by unfold maxLen; omega, hl2, by rw [hlen]; exact ht2⟩⟩, ?_, Or.inl rfl⟩
    rw [← hW1]
    exact ⟨rfl, rfl, rfl, by simp, fun k hk hr => by
      rw [setRow_other _ _ _ _ (fun e => hr (by rw [e]; rfl)), setRow_other _ _ _ _ (fun e => hr (by rw [e]; rfl))]
      rfl⟩)
  have R1 := Aside0.mk R1
  have R2 := Aside0.mk R2
  clear hDl hcl hc1 hc2 hl1 hl2 ht2 hG1 hV1 hW1
  have HT := Aside0.mk ht
  have HG := Aside0.mk hg
  have HCS := Aside0.mk hcs
  have HV := Aside0.mk hv
  have HNE := Aside0.mk hne
  have HN := Aside0.mk hn
  have HEE := Aside0.mk HE
  clear ht hg hcs hv hne hn HE HX hov
  have hz2 : ¬ ((i : Int) = (n : Int)) := by omega
  have hb0 : (i : Int) ≤ (n : Int) := by omega
  have hb1 : ¬ ((c : Int) < (n : Int) + 1) := by omega
  have hb2 : ¬ (c = i + 1) := by omega
  have hb3 : (i : Int) ≤ (n : Int) + 1 := by omega
  have hb4 : ¬ (c = i) := by omega
  have hb5 : (n : Int) + 1 ≤ (c : Int) := by omega
  have hb6 : (i : Int) + 1 ≤ (n : Int) + 1 := by omega
  have hb7 : i ≤ n := by omega
  have htn : ((i : Int) + 1).toNat = i + 1 := by omega
  go_enter Try.func18, Try.ntmps18
  go_wp2_with (simp only [HOV])
  have hwr : IntKind.i64.wrap ((i : Int) + 1) = (i : Int) + 1 := IntWalk.i64_in _ (by omega)
  have hb8 : (0 : Int) ≤ (i : Int) + 1 := by omega
  refine start_ (n := 9) (S := fun _ => True) (ds := []) #[false, false, false, false, false, false, false, false, false] (by kernel_rfl) rfl rfl trivial (fun hHeld => ?_)
  refine pure_ (i := 0) (N := some 69) (v := ?_) (a' := ?_) #[true, false, false, false, false, false, false, false, false] rfl rfl (by kernel_rfl) (fun _ _ _ h => h) (Or.inl ⟨by rfl, ?_⟩) ?_ ?_
  rotate_left
  · intro w'
    go_simp
    with_reducible rfl
  rotate_left
  · simp only [Act.put, List.setIfInBounds_toArray, List.set_cons_zero, List.set_cons_succ]
    rfl
  refine pure_ (i := 1) (N := some 70) (v := ?_) (a' := ?_) #[true, true, false, false, false, false, false, false, false] rfl rfl (by kernel_rfl) (fun _ _ _ h => h) (Or.inl ⟨by rfl, ?_⟩) ?_ ?_
  rotate_left
  · intro w'
    go_simp
    with_reducible rfl
  rotate_left
  · simp only [Act.put, List.setIfInBounds_toArray, List.set_cons_zero, List.set_cons_succ]
    rfl
  refine pure_ (i := 2) (N := some 71) (v := ?_) (a' := ?_) #[true, true, true, false, false, false, false, false, false] rfl rfl (by kernel_rfl) (fun _ _ _ h => h) (Or.inl ⟨by rfl, ?_⟩) ?_ ?_
  rotate_left
  · intro w'
    go_simp
    with_reducible rfl
  rotate_left
  · simp only [Act.put, List.setIfInBounds_toArray, List.set_cons_zero, List.set_cons_succ]
    rfl
  refine pure_ (i := 3) (N := some 72) (v := ?_) (a' := ?_) #[true, true, true, true, false, false, false, false, false] rfl rfl (by kernel_rfl) (fun _ _ _ h => h) (Or.inl ⟨by rfl, ?_⟩) ?_ ?_
  rotate_left
  · intro w'
    go_simp
    with_reducible rfl
  rotate_left
  · simp only [Act.put, List.setIfInBounds_toArray, List.set_cons_zero, List.set_cons_succ]
    rfl
  refine pure_ (i := 4) (N := some 73) (v := ?_) (a' := ?_) #[true, true, true, true, true, false, false, false, false] rfl rfl (by kernel_rfl) (fun _ _ _ h => h) (Or.inl ⟨by rfl, ?_⟩) ?_ ?_
  rotate_left
  · intro w'
    go_simp
    with_reducible rfl
  rotate_left
  · simp only [Act.put, List.setIfInBounds_toArray, List.set_cons_zero, List.set_cons_succ]
    rfl
  refine pure_ (i := 5) (N := some 74) (v := ?_) (a' := ?_) #[true, true, true, true, true, true, false, false, false] rfl rfl (by kernel_rfl) (fun _ _ _ h => h) (Or.inl ⟨by rfl, ?_⟩) ?_ ?_
  rotate_left
  · intro w'
    go_simp
    with_reducible rfl
  rotate_left
  · simp only [Act.put, List.setIfInBounds_toArray, List.set_cons_zero, List.set_cons_succ]
    rfl
  refine pure_ (i := 6) (N := some 75) (v := ?_) (a' := ?_) #[true, true, true, true, true, true, true, false, false] rfl rfl (by kernel_rfl) (fun _ _ _ h => h) (Or.inl ⟨by rfl, ?_⟩) ?_ ?_
  rotate_left
  · intro w'
    go_simp
    with_reducible rfl
  rotate_left
  · simp only [Act.put, List.setIfInBounds_toArray, List.set_cons_zero, List.set_cons_succ]
    rfl
  refine pure_ (i := 7) (N := some 76) (v := ?_) (a' := ?_) #[true, true, true, true, true, true, true, true, false] rfl rfl (by kernel_rfl) (fun _ _ _ h => h) (Or.inl ⟨by rfl, ?_⟩) ?_ ?_
  rotate_left
  · intro w'
    go_simp
    with_reducible rfl
  rotate_left
  · simp only [Act.put, List.setIfInBounds_toArray, List.set_cons_zero, List.set_cons_succ]
    rfl
  refine one_ (i := 8) (N := some 77) #[true, true, true, true, true, true, true, true, true] rfl rfl (by kernel_rfl) (by decide) (fun K hK => ?_)
  refine copyE_ (by rfl) rfl (.tmp 73) (.tmp 76) 41 41 rfl _ _ rfl rfl (R1.out _) ?_
  refine hK.out _ _ trivial (fun _ => ?_)
  clear hK K
  refine norm_ (a' := ?_) ?_ ?_
  rotate_left
  · show Act.put _ (some 77) _ = _
    simp only [Act.put, List.setIfInBounds_toArray, List.set_cons_zero, List.set_cons_succ]
    rfl
  refine done_ (by kernel_rfl) ?_
  clear hwr
  go_wp2_with (first | ((with_reducible refine gate_builtin (b := .copy) (xs := #[.tmp 80, .tmp 81]) rfl ?_); refine copyL_ rfl (.tmp 80) (.tmp 81) 41 41 rfl _ _ rfl rfl (R2.out _) ?_))
  go_ret
  exact HF.out
theorem zc_size (k : Nat) : (Builtin.zeroCells (Value.agg #[.int .i64 0, .string ByteArray.empty, .string ByteArray.empty, .string ByteArray.empty, .string ByteArray.empty, .int .i64 0, .int .i64 0, .int .i64 0, .int .i64 0, .int .i64 0, .bool false, .bool false, .int .i64 0, .bool false, .string ByteArray.empty, .string ByteArray.empty]).cells k).size = k * 16 := by
  have e : (Value.agg #[.int .i64 0, .string ByteArray.empty, .string ByteArray.empty, .string ByteArray.empty, .string ByteArray.empty, .int .i64 0, .int .i64 0, .int .i64 0, .int .i64 0, .int .i64 0, .bool false, .bool false, .int .i64 0, .bool false, .string ByteArray.empty, .string ByteArray.empty]).cells.size = 16 := rfl
  simp [Builtin.zeroCells, e]
set_option maxHeartbeats 1600000 in
set_option maxRecDepth 100000 in
theorem insert_grow (base vb g : Nat) (c : Nat) (cur : Array Value) (l : List S35) (x : S35) (i : Nat) (w : World) (hg : w.heap[g]? = some (.cells cur 35 (0, 0))) (hcs : cur.size = c * 16) (hb : base ≤ g) (ht : cur.toList.take (l.length * 16) = encs35 l)
    (hv : w.heap[vb]? = some (.cells (enc35 x).toArray 35 (0, 0))) (hlim : l.length ≤ 1000) (hi : i < l.length) (hnc : l.length ≤ c) (hroom : c < l.length + 1) :
    Calls Try.prog 18 #[.slice (some ⟨g, 0, none⟩) l.length c, .int .i64 i, .slice (some ⟨vb, 0, none⟩) 1 1] w (InsP w base (.slice (some ⟨g, 0, none⟩) l.length c) (l.take i ++ x :: l.drop i)) := by
  have HX : (enc35 x).length = 16 := rfl
  obtain ⟨n, hn⟩ : ∃ n, l.length = n := ⟨_, rfl⟩
  have HE : (encs35 l).length = n * 16 := by rw [encs_len, hn]
  rw [hn] at ht hlim hi hnc hroom ⊢
  obtain rfl : c = n := by omega
  have hgl := blk_lt hg
  have hvl := blk_lt hv
  obtain ⟨i0, hi0, hz0, hzs, hzb⟩ := info_parts info35
  have hcl : cur.toList.length = c * 16 := by rw [Array.length_toList, hcs]
  have hDl : ((encs35 l).drop (i * 16)).length = (c - i) * 16 := by rw [List.length_drop, HE]; omega
  have hkk : (c : Int) + 1 - (i : Int) = ((c + 1 - i : Nat) : Int) := by omega
  have hik : i + (c + 1 - i) = c + 1 := by omega
  have hcell : ∀ j v, (encs35 l)[j]? = some v → w.cell? ⟨g, j, none⟩ = some v := fun j v hj => by
    rw [blk_cell hg, ← Array.getElem?_toList]
    rw [← ht, List.getElem?_take] at hj
    split at hj
    · exact hj
    · cases hj
  have hold : (Builtin.firstCells i0.size i (.slice (some ⟨g, 0, none⟩) i c)).run Try.prog w.drew = .ok ((encs35 l).take (i * 16)).toArray w.drew := by
    rw [hzs]
    refine run_firstCells_some w.drew 16 i ⟨g, 0, none⟩ i c ((encs35 l).take (i * 16)) (by rw [List.length_take, HE]; omega) (fun j v hj => ?_)
    rw [List.getElem?_take] at hj
    split at hj
    · rw [add_plain]; exact hcell j v hj
    · cases hj
  have R0 : ∀ ty, ∃ G, c + 1 ≤ G ∧ G ≤ maxLen ∧ ∃ ROW : Array Value, ROW.size = G * 16 ∧ ROW.toList.take (i * 16) = (encs35 l).take (i * 16) ∧ (Builtin.append_ #[41, 3] ty #[.slice (some ⟨g, 0, none⟩) i c, .int .i64 ((c : Int) + 1 - (i : Int))]).run Try.prog w = .ok (.slice (some ⟨w.heap.size, 0, none⟩) (c + 1) G) (w.drew.alloc (.cells ROW 35)) := fun ty => by
    have h := Lib.run_append_grow_zeros w 41 3 ty 35 i0 _ .i64 .i64 Try.underlying41 Try.underlying3 hi0 hz0 (some ⟨g, 0, none⟩) i c ((encs35 l).take (i * 16)) hold (c + 1 - i) (by omega) (by omega) (by omega) (by omega) (by rw [hzb]; omega) (by rw [hzb, hik]; exact growslice_fits hroom (by omega))
    rw [hik] at h
    rw [hkk]
    refine ⟨_, grownCap_ge w (c + 1) c 35, grownCap_le_maxLen w (c + 1) c 35 (by unfold maxLen; omega), _, ?_, ?_, h⟩
    · have hge := grownCap_ge w (c + 1) c 35
      rw [Array.size_append, Array.size_append, zc_size, zc_size]
      have : ((encs35 l).take (i * 16)).toArray.size = i * 16 := by show List.length _ = _; rw [List.length_take, HE]; omega
      rw [this]
      omega
    · rw [Array.toList_append, Array.toList_append, List.append_assoc]
      exact List.take_left' (by rw [List.length_take, HE]; omega)
  obtain ⟨G, hG1, hG2, ROW, hR1, hR2, hrz⟩ := R0 41
  obtain ⟨N, hN⟩ : ∃ N, w.heap.size = N := ⟨_, rfl⟩
  rw [hN] at hrz hgl hvl
  have hrl : ROW.toList.length = G * 16 := by rw [Array.length_toList, hR1]
  unfold maxLen at hG2
  obtain ⟨cur1, hc1⟩ : ∃ C : Array Value, (spl ROW.toList (i * 16) (enc35 x)).toArray = C := ⟨_, rfl⟩
  obtain ⟨cur2, hc2⟩ : ∃ C : Array Value, (spl cur1.toList ((i + 1) * 16) ((encs35 l).drop (i * 16))).toArray = C := ⟨_, rfl⟩
  have hl1 : cur1.size = G * 16 := by rw [← hc1]; show (spl _ _ _).length = _; rw [spl_len _ _ _ (show i * 16 + 16 ≤ ROW.toList.length by rw [hrl]; omega), hrl]
  have hl2 : cur2.size = G * 16 := by rw [← hc2]; show (spl _ _ _).length = _; rw [spl_len _ _ _ (by rw [hDl, Array.length_toList, hl1]; omega), Array.length_toList, hl1]
  have ht2 : cur2.toList.take ((c + 1) * 16) = encs35 (l.take i ++ x :: l.drop i) := by
    rw [← hc2, ← hc1]
    show (spl (spl _ _ _) _ _).take _ = _
    rw [grow_list ROW.toList (encs35 l) (enc35 x) c i HE HX hi (by rw [hrl]; omega) hR2, encs_take l i (by omega), encs_drop l i (by omega), encs_append, encs_cons, List.append_assoc]
  obtain ⟨W0, hW0⟩ : ∃ W0, w.drew.alloc (.cells ROW 35) = W0 := ⟨_, rfl⟩
  rw [hW0] at hrz
  have hG0 : W0.heap[N]? = some (.cells ROW 35 (0, 0)) := by rw [← hW0, ← hN]; exact heap_alloc_new w.drew _
  have hV0 : ∀ k, k < N → W0.heap[k]? = w.heap[k]? := fun k hk => by rw [← hW0]; exact (below_alloc (Below.refl w.drew.heap.size w.drew) _).block k (by rw [← hN] at hk; exact hk)
  have hS0 : w.grownBy W0 none := by rw [← hW0]; have h := World.grownBy_alloc w.drew (.cells ROW 35) none; exact ⟨h.os, h.tape, h.output, h.size, h.block⟩
  have R1 : ∀ ty, (Builtin.copy_ #[41, 41] ty #[.slice (some ⟨N, i * 16, none⟩) (c + 1 - i) (G - i), .slice (some ⟨vb, 0, none⟩) 1 1]).run Try.prog W0 = .ok (goInt (Nat.min 1 (c + 1 - i))) (W0.setRow N cur1) := fun ty => by
    rw [← hc1]
    refine CopyRows.run_copy_rowZ W0 41 41 ty 35 N (i * 16) (c + 1 - i) (G - i) ⟨vb, 0, none⟩ 1 1 ROW 35 (enc35 x) 16 Try.underlying41 size35 hG0 (by rw [HX, show Nat.min 1 (c + 1 - i) = 1 from Nat.min_eq_left (by omega)]) (fun j v hj => ?_) (by rw [HX, hR1]; omega) (enc_one x)
    rw [add_at, Nat.zero_add, blk_cell ((hV0 vb hvl).trans hv)]
    simpa using hj
  have hG1' : (W0.setRow N cur1).heap[N]? = some (.cells cur1 35 (0, 0)) := setRow_heap _ _ _ _ _ _ hG0
  obtain ⟨W1, hW1⟩ : ∃ W1, W0.setRow N cur1 = W1 := ⟨_, rfl⟩
  rw [hW1] at R1 hG1'
  have hO1 : W1.heap[g]? = some (.cells cur 35 (0, 0)) := by rw [← hW1, setRow_other _ _ _ _ (by omega)]; exact (hV0 g hgl).trans hg
  have R2 : ∀ ty, (Builtin.copy_ #[41, 41] ty #[.slice (some ⟨N, (i + 1) * 16, none⟩) (c - i) (G - (i + 1)), .slice (some ⟨g, i * 16, none⟩) (c - i) (c - i)]).run Try.prog W1.drew = .ok (goInt (Nat.min (c - i) (c - i))) (W1.drew.setRow N cur2) := fun ty => by
    rw [← hc2]
    refine CopyRows.run_copy_rowZ W1.drew 41 41 ty 35 N ((i + 1) * 16) (c - i) (G - (i + 1)) ⟨g, i * 16, none⟩ (c - i) (c - i) cur1 35 ((encs35 l).drop (i * 16)) 16 Try.underlying41 size35 hG1' (by rw [hDl, show Nat.min (c - i) (c - i) = c - i from Nat.min_self _]) (fun j v hj => ?_) (by rw [hDl, hl1]; omega) (fun v hv' => encs_one l v (List.mem_of_mem_drop hv'))
    rw [add_at, show (W1.drew).cell? ⟨g, i * 16 + j, none⟩ = W1.cell? ⟨g, i * 16 + j, none⟩ from rfl, blk_cell hO1, ← Array.getElem?_toList]
    rw [List.getElem?_drop, ← ht, List.getElem?_take] at hj
    split at hj
    · exact hj
    · cases hj
  have HF := Aside0.mk (show InsP w base (.slice (some ⟨g, 0, none⟩) c c) (l.take i ++ x :: l.drop i) (.returned (.slice (some ⟨N, 0, none⟩) (c + 1) G)) (W1.drew.setRow N cur2) from by
    have hlen : (l.take i ++ x :: l.drop i).length = c + 1 := by simp only [List.length_append, List.length_take, List.length_cons, List.length_drop, hn]; omega
    refine ⟨_, rfl, ⟨encs_len _, Or.inr ⟨N, G, cur2, by rw [hlen], by omega, setRow_heap _ _ _ _ _ _ hG1', by omega, by unfold maxLen; omega, hl2, by rw [hlen]; exact ht2⟩⟩, ?_, Or.inr ⟨N, rfl, by omega⟩⟩
    rw [← hW1]
    refine ⟨hS0.os, hS0.tape, hS0.output, ?_, fun k hk hr => ?_⟩
    · have h1 := hS0.size
      simp
      exact h1
    · rw [setRow_other _ _ _ _ (by omega)]
      show (W0.setRow N cur1).heap[k]? = _
      rw [setRow_other _ _ _ _ (by omega)]
      exact hV0 k (by omega))
  have R1 := Aside0.mk R1
  have R2 := Aside0.mk R2
  have RZ := Aside0.mk hrz
  clear hDl hcl hc1 hc2 hl1 hl2 ht2 hG1' hO1 hW1 hS0 hV0 hG0 hW0 hrl hN hrz hR2 hR1 R0 hold hcell hzb hzs hz0 hi0 ht hcs hg hv HE HX hn hik hgl hvl
  have hz2 : ¬ ((i : Int) = (c : Int)) := by omega
  have hb0 : (i : Int) ≤ (c : Int) := by omega
  have hb2 : ¬ (G = i + 1) := by omega
  have hb3 : (i : Int) ≤ (c : Int) + 1 := by omega
  have hb4 : ¬ (c = i) := by omega
  have hb5 : (c : Int) + 1 ≤ (G : Int) := by omega
  have hb6 : (i : Int) + 1 ≤ (c : Int) + 1 := by omega
  have hb7 : i ≤ c := by omega
  have hb9 : ¬ (G = i) := by omega
  have htn : ((i : Int) + 1).toNat = i + 1 := by omega
  clear hkk hroom
  go_enter Try.func18, Try.ntmps18
  go_wp2_with (first | ((with_reducible refine gate_builtin (b := .append) (xs := #[.tmp 34, .tmp 39]) rfl ?_); refine Lib.wpList_append_run _ rfl _ _ _ _ rfl _ _ rfl rfl _ _ RZ.out ?_) | ((with_reducible refine gate_builtin (b := .copy) (xs := #[.tmp 43, .tmp 44]) rfl ?_); refine copyL_ rfl (.tmp 43) (.tmp 44) 41 41 rfl _ _ rfl rfl (R1.out _) ?_))
  simp only [Act.put, List.setIfInBounds_toArray, List.set_cons_succ, List.set_cons_zero]
  have hwr : IntKind.i64.wrap ((i : Int) + 1) = (i : Int) + 1 := IntWalk.i64_in _ (by omega)
  have hb8 : (0 : Int) ≤ (i : Int) + 1 := by omega
  have hb10 : (i : Int) + 1 ≤ (c : Int) + 1 := by omega
  refine start_ (n := 9) (S := fun _ => True) (ds := []) #[false, false, false, false, false, false, false, false, false] (by kernel_rfl) rfl rfl trivial (fun hHeld => ?_)
  refine pure_ (i := 0) (N := some 46) (v := ?_) (a' := ?_) #[true, false, false, false, false, false, false, false, false] rfl rfl (by kernel_rfl) (fun _ _ _ h => h) (Or.inl ⟨by rfl, ?_⟩) ?_ ?_
  rotate_left
  · intro w'
    go_simp
    with_reducible rfl
  rotate_left
  · simp only [Act.put, List.setIfInBounds_toArray, List.set_cons_zero, List.set_cons_succ]
    rfl
  refine pure_ (i := 1) (N := some 47) (v := ?_) (a' := ?_) #[true, true, false, false, false, false, false, false, false] rfl rfl (by kernel_rfl) (fun _ _ _ h => h) (Or.inl ⟨by rfl, ?_⟩) ?_ ?_
  rotate_left
  · intro w'
    go_simp
    with_reducible rfl
  rotate_left
  · simp only [Act.put, List.setIfInBounds_toArray, List.set_cons_zero, List.set_cons_succ]
    rfl
  refine pure_ (i := 2) (N := some 48) (v := ?_) (a' := ?_) #[true, true, true, false, false, false, false, false, false] rfl rfl (by kernel_rfl) (fun _ _ _ h => h) (Or.inl ⟨by rfl, ?_⟩) ?_ ?_
  rotate_left
  · intro w'
    go_simp
    with_reducible rfl
  rotate_left
  · simp only [Act.put, List.setIfInBounds_toArray, List.set_cons_zero, List.set_cons_succ]
    rfl
  refine pure_ (i := 3) (N := some 49) (v := ?_) (a' := ?_) #[true, true, true, true, false, false, false, false, false] rfl rfl (by kernel_rfl) (fun _ _ _ h => h) (Or.inl ⟨by rfl, ?_⟩) ?_ ?_
  rotate_left
  · intro w'
    go_simp
    with_reducible rfl
  rotate_left
  · simp only [Act.put, List.setIfInBounds_toArray, List.set_cons_zero, List.set_cons_succ]
    rfl
  refine pure_ (i := 4) (N := some 50) (v := ?_) (a' := ?_) #[true, true, true, true, true, false, false, false, false] rfl rfl (by kernel_rfl) (fun _ _ _ h => h) (Or.inl ⟨by rfl, ?_⟩) ?_ ?_
  rotate_left
  · intro w'
    go_simp
    with_reducible rfl
  rotate_left
  · simp only [Act.put, List.setIfInBounds_toArray, List.set_cons_zero, List.set_cons_succ]
    rfl
  refine pure_ (i := 5) (N := some 51) (v := ?_) (a' := ?_) #[true, true, true, true, true, true, false, false, false] rfl rfl (by kernel_rfl) (fun _ _ _ h => h) (Or.inl ⟨by rfl, ?_⟩) ?_ ?_
  rotate_left
  · intro w'
    go_simp
    with_reducible rfl
  rotate_left
  · simp only [Act.put, List.setIfInBounds_toArray, List.set_cons_zero, List.set_cons_succ]
    rfl
  refine pure_ (i := 6) (N := some 52) (v := ?_) (a' := ?_) #[true, true, true, true, true, true, true, false, false] rfl rfl (by kernel_rfl) (fun _ _ _ h => h) (Or.inl ⟨by rfl, ?_⟩) ?_ ?_
  rotate_left
  · intro w'
    go_simp
    with_reducible rfl
  rotate_left
  · simp only [Act.put, List.setIfInBounds_toArray, List.set_cons_zero, List.set_cons_succ]
    rfl
  refine pure_ (i := 7) (N := some 53) (v := ?_) (a' := ?_) #[true, true, true, true, true, true, true, true, false] rfl rfl (by kernel_rfl) (fun _ _ _ h => h) (Or.inl ⟨by rfl, ?_⟩) ?_ ?_
  rotate_left
  · intro w'
    go_simp
    with_reducible rfl
  rotate_left
  · simp only [Act.put, List.setIfInBounds_toArray, List.set_cons_zero, List.set_cons_succ]
    rfl
  refine one_ (i := 8) (N := some 54) #[true, true, true, true, true, true, true, true, true] rfl rfl (by kernel_rfl) (by decide) (fun K hK => ?_)
  refine copyE_ (by rfl) rfl (.tmp 50) (.tmp 53) 41 41 rfl _ _ rfl rfl (R2.out _) ?_
  refine hK.out _ _ trivial (fun _ => ?_)
  clear hK K
  refine norm_ (a' := ?_) ?_ ?_
  rotate_left
  · show Act.put _ (some 54) _ = _
    simp only [Act.put, List.setIfInBounds_toArray, List.set_cons_zero, List.set_cons_succ]
    rfl
  refine done_ (by kernel_rfl) ?_
  clear hwr
  go_wp2_with (fail)
  go_ret
  exact HF.out
theorem own_form {w : World} {base n c : Nat} {A : Option Addr} {l : List S35} (h : OwnT w base (.slice A n c) l) (h0 : 0 < l.length) : ∃ g cur, A = some ⟨g, 0, none⟩ ∧ n = l.length ∧ base ≤ g ∧ w.heap[g]? = some (.cells cur 35 (0, 0)) ∧ n ≤ c ∧ c ≤ maxLen ∧ cur.size = c * 16 ∧ cur.toList.take (l.length * 16) = encs35 l := by
  rcases h.2 with ⟨_, h1⟩ | ⟨g, cap, cur, hv, hb, hh, h1, h2, h3, h4⟩
  · omega
  · injection hv with ha hn hc
    subst ha; subst hn; subst hc
    exact ⟨g, cur, rfl, rfl, hb, hh, h1, h2, h3, h4⟩
theorem insert_walk (base vb : Nat) (A : Option Addr) (c : Nat) (l : List S35) (x : S35) (i : Nat) (w : World) (h : OwnT w base (.slice A l.length c) l) (hv : w.heap[vb]? = some (.cells (enc35 x).toArray 35 (0, 0))) (hne : some vb ≠ (Value.slice A l.length c).ownBlock) (hlim : l.length ≤ 1000) (hi : i ≤ l.length) (hbase : base ≤ w.heap.size) :
    Calls Try.prog 18 #[.slice A l.length c, .int .i64 i, .slice (some ⟨vb, 0, none⟩) 1 1] w (InsP w base (.slice A l.length c) (l.take i ++ x :: l.drop i)) := by
  rcases Nat.eq_or_lt_of_le hi with e | hlt
  · subst e
    have := insert_end base vb A c l x w h hv hlim hbase
    rwa [List.take_length, List.drop_length]
  · obtain ⟨g, cur, rfl, _, hb, hg, hnc, hcm, hcs, ht⟩ := own_form h (by omega)
    have hne' : vb ≠ g := fun e => hne (by rw [e]; rfl)
    by_cases hroom : l.length + 1 ≤ c
    · exact insert_shift base vb g c cur l x i w hg hcs hcm hb ht hv hne' hlim hlt hroom
    · exact insert_grow base vb g c cur l x i w hg hcs hb ht hv hlim hlt hnc (by omega)
end Go.Proofs.Ytdpfopeofeofcaa.Sp
namespace Go.Proofs.Ytdpfopeofeofcaa.Sp
open Go.RowKit Go.Proofs.YtdpfopeofeofcaaW.PrintWords Go.Proofs.YtdpfopeofeofcaaW.PrintLast Go.Proofs.YtdpfopeofeofcaaW.PrintMore Go.Proofs.Ytdpfopeofeofcaa.QSp
open Go.Proofs.Ytdpfopeofeofcaa
set_option linter.unusedVariables false
set_option linter.unusedSimpArgs false
section
variable {P : Program} {ops : Array Oper} {rest : List Oper} {Q : Exit → Act → World → Prop}
/-- The builtin clear whose run is known, in a plain region. -/
theorem clearL_ {o : Oper} {a : Act} {w : World} (hgd : o.guard = none) (s : Operand) (t : TypeId)
    (ho : o.op = .call { callee := .builtin .clear, args := #[s], argTypes := #[t] }) (v : Value) (hs : a.eval s = v) {v' : Value} {w' : World}
    (hr : (Builtin.clear_ #[t] o.type #[v]).run P w = .ok v' w') (h : wpList P ops Q rest (a.put o.dst v') w') : wpList P ops Q (o :: rest) a w := by
  refine wpList_plain hgd fun K hK => ?_
  unfold Oper.wp execOp
  simp only [ho, resolve, invoke, builtin, Sem.run_bind, Sem.run_pure, Result.andThen_ok, List.map_toArray, List.map_cons, List.map_nil, hs, hr]
  exact hK _ _ h
theorem run_clear_rowZ (w : World) (t ty e : TypeId) (i : TypeInfo) (z : Value) (ht : P.underlying t = some (.slice e)) (hi : P.info? e = some i) (hz : i.zero = some z) (g o n c : Nat) (hn : 0 < n) (cur : Array Value) (t' : TypeId) (hg : w.heap[g]? = some (.cells cur t' (0, 0)))
    (hfit : o + (Builtin.zeroCells z.cells n).toList.length ≤ cur.size) (h1 : ∀ v ∈ (Builtin.zeroCells z.cells n).toList, v.oneCell' = true) :
    (Builtin.clear_ #[t] ty #[.slice (some ⟨g, o, none⟩) n c]).run P w = .ok (.tuple #[]) (w.setRow g (spl cur.toList o (Builtin.zeroCells z.cells n).toList).toArray) := by
  have hst := run_storeCells_at P g o t' (Builtin.zeroCells z.cells n).toList 0 cur w hg (by simpa using hfit) h1
  obtain ⟨k, rfl⟩ : ∃ k, n = k + 1 := ⟨n - 1, by omega⟩
  simp only [Nat.add_zero] at hst
  simp [Builtin.clear_, run_underlying ht, zeroValue, typeInfo, hi, hz, hst, spl]
end
/-- What Delete leaves. -/
def DelP (w : World) (base g c n : Nat) (l' : List S35) (e : Ending) (w' : World) : Prop :=
  e = .returned (.slice (some ⟨g, 0, none⟩) n c) ∧ OwnT w' base (.slice (some ⟨g, 0, none⟩) n c) l' ∧ w.grownBy w' (some g)
set_option maxHeartbeats 1600000 in
set_option maxRecDepth 100000 in
theorem delete_walk (base g c : Nat) (l : List S35) (i : Nat) (w : World) (h : OwnT w base (.slice (some ⟨g, 0, none⟩) l.length c) l) (hlim : l.length ≤ 1000) (hi : i < l.length) (hbase : base ≤ w.heap.size) :
    Calls Try.prog 16 #[.slice (some ⟨g, 0, none⟩) l.length c, .int .i64 i, .int .i64 ((i : Int) + 1)] w (DelP w base g c (l.length - 1) (l.eraseIdx i)) := by
  obtain ⟨n, hn⟩ : ∃ n, l.length = n := ⟨_, rfl⟩
  have hel : (l.eraseIdx i).length = n - 1 := by rw [List.length_eraseIdx_of_lt hi, hn]
  have hR : k35.R 35 w.drew base (fun _ => True) (.slice (some ⟨g, 0, none⟩) n c) l := by rw [← hn]; exact Kd.R_drew (R_of_own h)
  have hnc : n ≤ c := by rw [← hn]; exact (Kd.R_reads' (R_of_own h)).2.1
  have hcm : c ≤ maxLen := by
    obtain ⟨g', cur, _, _, _, _, _, h1, _⟩ := own_form h (by omega)
    exact h1
  rw [hn] at hlim hi ⊢
  unfold maxLen at hcm
  have HR := Aside0.mk hR
  have HB := Aside0.mk hbase
  have HE := Aside0.mk hel
  clear h hR hbase hel hn
  obtain ⟨m, rfl⟩ : ∃ m, n = m + 1 := ⟨n - 1, by omega⟩
  rw [Nat.add_sub_cancel] at HE ⊢
  have F1 := Aside0.mk (show ∀ W, k35.R 35 W base (fun _ => True) (.slice (some ⟨g, 0, none⟩) m c) (l.eraseIdx i) → w.drew.grownBy W (some g) → ∃ W', (∀ ty, (Builtin.clear_ #[41] ty #[.slice (some ⟨g, m * 16, none⟩) 1 (c - m)]).run Try.prog W = .ok (.tuple #[]) W') ∧ DelP w base g c m (l.eraseIdx i) (.returned (.slice (some ⟨g, 0, none⟩) m c)) W' from fun W ho hg => by
    have ho := own_of_R ho
    obtain ⟨i0, hi0, hz0, hzs, hzb⟩ := info_parts info35
    rcases ho.2 with ⟨hv, _⟩ | ⟨g', cap, cur, hv, hb, hh, h1, h2, h3, h4⟩
    · cases hv
    · injection hv with ha hx hc
      injection ha with ha
      injection ha with ha
      subst ha; subst hc
      have hcl : cur.toList.length = c * 16 := by rw [Array.length_toList, h3]
      have hz : (Builtin.zeroCells (Value.agg #[.int .i64 0, .string ByteArray.empty, .string ByteArray.empty, .string ByteArray.empty, .string ByteArray.empty, .int .i64 0, .int .i64 0, .int .i64 0, .int .i64 0, .int .i64 0, .bool false, .bool false, .int .i64 0, .bool false, .string ByteArray.empty, .string ByteArray.empty]).cells 1).toList.length = 16 := by rw [Array.length_toList, zc_size]
      refine ⟨_, fun ty => run_clear_rowZ W 41 ty 35 i0 _ Try.underlying41 hi0 hz0 g (m * 16) 1 (c - m) (by omega) cur 35 hh (by rw [hz, h3]; omega) (fun v hv => ?_), rfl, ⟨ho.1, .inr ⟨g, c, _, by rw [HE.out], hb, setRow_heap _ _ _ _ _ _ hh, h1, h2, ?_, ?_⟩⟩, ?_⟩
      · have e : (Builtin.zeroCells (Value.agg #[.int .i64 0, .string ByteArray.empty, .string ByteArray.empty, .string ByteArray.empty, .string ByteArray.empty, .int .i64 0, .int .i64 0, .int .i64 0, .int .i64 0, .int .i64 0, .bool false, .bool false, .int .i64 0, .bool false, .string ByteArray.empty, .string ByteArray.empty]).cells 1).toList = [.int .i64 0, .string ByteArray.empty, .string ByteArray.empty, .string ByteArray.empty, .string ByteArray.empty, .int .i64 0, .int .i64 0, .int .i64 0, .int .i64 0, .int .i64 0, .bool false, .bool false, .int .i64 0, .bool false, .string ByteArray.empty, .string ByteArray.empty] := by kernel_rfl
        rw [e] at hv
        simp only [List.mem_cons, List.not_mem_nil, or_false] at hv
        rcases hv with rfl | rfl | rfl | rfl | rfl | rfl | rfl | rfl | rfl | rfl | rfl | rfl | rfl | rfl | rfl | rfl <;> rfl
      · show (spl _ _ _).length = _
        rw [spl_len _ _ _ (by rw [hz, hcl]; omega), hcl]
      · rw [← h4, HE.out]
        show (spl _ _ _).take _ = _
        unfold spl
        rw [List.append_assoc, List.take_append_of_le_length (by rw [List.length_take, hcl]; omega), List.take_take, Nat.min_self]
      · refine ⟨hg.os, hg.tape, hg.output, by rw [setRow_size]; exact hg.size, fun k hk hr => ?_⟩
        rw [setRow_other _ _ _ _ (fun e => hr (by rw [e]))]
        exact hg.block k hk hr)
  have hb0 : (0 : Int) ≤ (i : Int) + 1 := by omega
  have hb1 : (i : Int) ≤ (i : Int) + 1 := by omega
  have hb2 : (i : Int) + 1 ≤ (m : Int) + 1 := by omega
  have hb3 : (m : Int) + 1 ≤ (c : Int) := by omega
  have hb4 : ¬ ((i : Int) = (i : Int) + 1) := by omega
  have htn : ((i : Int) + 1).toNat = i + 1 := by omega
  have hb5 : i ≤ c := by omega
  have hb6 : i + 1 ≤ c := by omega
  have hb7 : i ≤ m + 1 := by omega
  have hb8 : i + 1 ≤ m + 1 := by omega
  by_cases hc : c = i + 1
  · obtain rfl : m = i := by omega
    subst hc
    go_enter Try.func16, Try.ntmps16
    go_wp2_with (fail)
    refine start_ (n := 8) (S := fun _ => True) (ds := []) #[false, false, false, false, false, false, false, false] (by kernel_rfl) rfl rfl trivial (fun hHeld => ?_)
    refine pure_ (i := 0) (N := some 20) (v := ?_) (a' := ?_) #[true, false, false, false, false, false, false, false] rfl rfl (by kernel_rfl) (fun _ _ _ h => h) (Or.inl ⟨by rfl, ?_⟩) ?_ ?_
    rotate_left
    · intro w'
      go_simp
      with_reducible rfl
    rotate_left
    · simp only [Act.put, List.setIfInBounds_toArray, List.set_cons_zero, List.set_cons_succ]
      rfl
    refine pure_ (i := 1) (N := some 21) (v := ?_) (a' := ?_) #[true, true, false, false, false, false, false, false] rfl rfl (by kernel_rfl) (fun _ _ _ h => h) (Or.inl ⟨by rfl, ?_⟩) ?_ ?_
    rotate_left
    · intro w'
      go_simp
      with_reducible rfl
    rotate_left
    · simp only [Act.put, List.setIfInBounds_toArray, List.set_cons_zero, List.set_cons_succ]
      rfl
    refine pure_ (i := 2) (N := some 22) (v := ?_) (a' := ?_) #[true, true, true, false, false, false, false, false] rfl rfl (by kernel_rfl) (fun _ _ _ h => h) (Or.inl ⟨by rfl, ?_⟩) ?_ ?_
    rotate_left
    · intro w'
      go_simp
      with_reducible rfl
    rotate_left
    · simp only [Act.put, List.setIfInBounds_toArray, List.set_cons_zero, List.set_cons_succ]
      rfl
    refine pure_ (i := 3) (N := some 23) (v := ?_) (a' := ?_) #[true, true, true, true, false, false, false, false] rfl rfl (by kernel_rfl) (fun _ _ _ h => h) (Or.inl ⟨by rfl, ?_⟩) ?_ ?_
    rotate_left
    · intro w'
      go_simp
      with_reducible rfl
    rotate_left
    · simp only [Act.put, List.setIfInBounds_toArray, List.set_cons_zero, List.set_cons_succ]
      rfl
    refine pure_ (i := 4) (N := some 24) (v := ?_) (a' := ?_) #[true, true, true, true, true, false, false, false] rfl rfl (by kernel_rfl) (fun _ _ _ h => h) (Or.inl ⟨by rfl, ?_⟩) ?_ ?_
    rotate_left
    · intro w'
      go_simp
      with_reducible rfl
    rotate_left
    · simp only [Act.put, List.setIfInBounds_toArray, List.set_cons_zero, List.set_cons_succ]
      rfl
    refine pure_ (i := 5) (N := some 25) (v := ?_) (a' := ?_) #[true, true, true, true, true, true, false, false] rfl rfl (by kernel_rfl) (fun _ _ _ h => h) (Or.inl ⟨by rfl, ?_⟩) ?_ ?_
    rotate_left
    · intro w'
      go_simp
      with_reducible rfl
    rotate_left
    · simp only [Act.put, List.setIfInBounds_toArray, List.set_cons_zero, List.set_cons_succ]
      rfl
    refine one_ (i := 6) (N := some 26) #[true, true, true, true, true, true, true, false] rfl rfl (by kernel_rfl) (by decide) (fun K hK => ?_)
    refine Kd.R_delete_step k35 (w0 := w) base (by rfl) (.tmp 22) (.tmp 25) 41 35 rfl Try.underlying41 size35 (g := g) (n := (m + 1)) (c := (m + 1)) (k := m) (m := 0) (c2 := 0) (A := some ⟨g, 0, none⟩) rfl rfl (by first | rw [if_pos rfl] | (rw [if_neg hc, Option.map_some, add_plain]; rfl)) (by omega) HR.out (by omega) (below_drew (Below.refl _ _ |>.mono HB.out)) HB.out ?_
    intro w1 ho hb hg
    obtain ⟨W2, HC, HP⟩ := F1.out _ ho hg
    rw [show m + 1 - m = 1 by omega] at HC
    have HC := Aside0.mk HC
    have HP := Aside0.mk HP
    clear ho hb hg
    refine hK.out _ _ trivial (fun _ => ?_)
    clear hK K
    refine norm_ (a' := ?_) ?_ ?_
    rotate_left
    · show Act.put _ (some 26) _ = _
      simp only [Act.put, List.setIfInBounds_toArray, List.set_cons_zero, List.set_cons_succ]
      rfl
    refine pure_ (i := 7) (N := some 0) (v := ?_) (a' := ?_) #[true, true, true, true, true, true, true, true] rfl rfl (by kernel_rfl) (fun _ _ _ h => h) (Or.inl ⟨by rfl, ?_⟩) ?_ ?_
    rotate_left
    · intro w'
      go_simp
      with_reducible rfl
    rotate_left
    · simp only [Act.put, List.setIfInBounds_toArray, List.set_cons_zero, List.set_cons_succ]
      rfl
    refine done_ (by kernel_rfl) ?_
    simp only [Exit.inBlock, Exit.then]
    have hb9 : (m : Int) + 1 ≤ ((m : Int) + 1) := by omega
    have hb10 : (m : Int) ≤ (m : Int) + 1 := by omega
    have hb11 : m ≤ m + 1 := by omega
    have hb12 : ¬ (m + 1 = m) := by omega
    have hb13 : ¬ (m = m + 1) := by omega
    go_wp2_with (first | ((with_reducible refine gate_builtin (b := .clear) (xs := #[.tmp 31]) rfl ?_); refine clearL_ rfl (.tmp 31) 22 rfl _ rfl (HC.out _) ?_))
    go_ret
    exact HP.out
  · have hc' : ¬ (i + 1 = c) := fun h => hc h.symm
    go_enter Try.func16, Try.ntmps16
    go_wp2_with (fail)
    refine start_ (n := 8) (S := fun _ => True) (ds := []) #[false, false, false, false, false, false, false, false] (by kernel_rfl) rfl rfl trivial (fun hHeld => ?_)
    refine pure_ (i := 0) (N := some 20) (v := ?_) (a' := ?_) #[true, false, false, false, false, false, false, false] rfl rfl (by kernel_rfl) (fun _ _ _ h => h) (Or.inl ⟨by rfl, ?_⟩) ?_ ?_
    rotate_left
    · intro w'
      go_simp
      with_reducible rfl
    rotate_left
    · simp only [Act.put, List.setIfInBounds_toArray, List.set_cons_zero, List.set_cons_succ]
      rfl
    refine pure_ (i := 1) (N := some 21) (v := ?_) (a' := ?_) #[true, true, false, false, false, false, false, false] rfl rfl (by kernel_rfl) (fun _ _ _ h => h) (Or.inl ⟨by rfl, ?_⟩) ?_ ?_
    rotate_left
    · intro w'
      go_simp
      with_reducible rfl
    rotate_left
    · simp only [Act.put, List.setIfInBounds_toArray, List.set_cons_zero, List.set_cons_succ]
      rfl
    refine pure_ (i := 2) (N := some 22) (v := ?_) (a' := ?_) #[true, true, true, false, false, false, false, false] rfl rfl (by kernel_rfl) (fun _ _ _ h => h) (Or.inl ⟨by rfl, ?_⟩) ?_ ?_
    rotate_left
    · intro w'
      go_simp
      with_reducible rfl
    rotate_left
    · simp only [Act.put, List.setIfInBounds_toArray, List.set_cons_zero, List.set_cons_succ]
      rfl
    refine pure_ (i := 3) (N := some 23) (v := ?_) (a' := ?_) #[true, true, true, true, false, false, false, false] rfl rfl (by kernel_rfl) (fun _ _ _ h => h) (Or.inl ⟨by rfl, ?_⟩) ?_ ?_
    rotate_left
    · intro w'
      go_simp
      with_reducible rfl
    rotate_left
    · simp only [Act.put, List.setIfInBounds_toArray, List.set_cons_zero, List.set_cons_succ]
      rfl
    refine pure_ (i := 4) (N := some 24) (v := ?_) (a' := ?_) #[true, true, true, true, true, false, false, false] rfl rfl (by kernel_rfl) (fun _ _ _ h => h) (Or.inl ⟨by rfl, ?_⟩) ?_ ?_
    rotate_left
    · intro w'
      go_simp
      with_reducible rfl
    rotate_left
    · simp only [Act.put, List.setIfInBounds_toArray, List.set_cons_zero, List.set_cons_succ]
      rfl
    refine pure_ (i := 5) (N := some 25) (v := ?_) (a' := ?_) #[true, true, true, true, true, true, false, false] rfl rfl (by kernel_rfl) (fun _ _ _ h => h) (Or.inl ⟨by rfl, ?_⟩) ?_ ?_
    rotate_left
    · intro w'
      go_simp
      with_reducible rfl
    rotate_left
    · simp only [Act.put, List.setIfInBounds_toArray, List.set_cons_zero, List.set_cons_succ]
      rfl
    refine one_ (i := 6) (N := some 26) #[true, true, true, true, true, true, true, false] rfl rfl (by kernel_rfl) (by decide) (fun K hK => ?_)
    refine Kd.R_delete_step k35 (w0 := w) base (by rfl) (.tmp 22) (.tmp 25) 41 35 rfl Try.underlying41 size35 (g := g) (n := (m + 1)) (c := c) (k := i) (m := m - i) (c2 := c - (i + 1)) (A := some ⟨g, (i + 1) * 16, none⟩) rfl rfl (by first | rw [if_pos rfl] | (rw [if_neg hc, Option.map_some, add_plain]; rfl)) (by omega) HR.out (by omega) (below_drew (Below.refl _ _ |>.mono HB.out)) HB.out ?_
    intro w1 ho hb hg
    obtain ⟨W2, HC, HP⟩ := F1.out _ ho hg
    have HC := Aside0.mk HC
    have HP := Aside0.mk HP
    clear ho hb hg
    refine hK.out _ _ trivial (fun _ => ?_)
    clear hK K
    refine norm_ (a' := ?_) ?_ ?_
    rotate_left
    · show Act.put _ (some 26) _ = _
      simp only [Act.put, List.setIfInBounds_toArray, List.set_cons_zero, List.set_cons_succ]
      rfl
    refine pure_ (i := 7) (N := some 0) (v := ?_) (a' := ?_) #[true, true, true, true, true, true, true, true] rfl rfl (by kernel_rfl) (fun _ _ _ h => h) (Or.inl ⟨by rfl, ?_⟩) ?_ ?_
    rotate_left
    · intro w'
      go_simp
      with_reducible rfl
    rotate_left
    · simp only [Act.put, List.setIfInBounds_toArray, List.set_cons_zero, List.set_cons_succ]
      rfl
    refine done_ (by kernel_rfl) ?_
    simp only [Exit.inBlock, Exit.then]
    have hb9 : (m : Int) + 1 ≤ (c : Int) := by omega
    have hb10 : (m : Int) ≤ (m : Int) + 1 := by omega
    have hb11 : m ≤ m + 1 := by omega
    have hb12 : ¬ (c = m) := by omega
    have hb13 : ¬ (m = c) := by omega
    go_wp2_with (first | ((with_reducible refine gate_builtin (b := .clear) (xs := #[.tmp 31]) rfl ?_); refine clearL_ rfl (.tmp 31) 22 rfl _ rfl (HC.out _) ?_))
    go_ret
    exact HP.out
end Go.Proofs.Ytdpfopeofeofcaa.Sp

/- Strings' order; pick's functions answer always; slices.Clone of rules. -/
import Derived.Test.YtdpfopeofeofcaaQSpx31
import Derived.Test.YtdpfopeofeofcaaQSpx32
import Derived.Test.YtdpfopeofeofcaaCells
import Derived.Test.YtdpfopeofeofcaaWLast
import Derived.Test.YtdpfopeofeofcaaWMore
import Derived.BigQuiet
import Derived.WalkLawsBesides
namespace Go.Proofs.Ytdpfopeofeofcaa.Sp
open Go.RowKit Go.Proofs.YtdpfopeofeofcaaW.PrintWords Go.Proofs.YtdpfopeofeofcaaW.PrintLast Go.Proofs.YtdpfopeofeofcaaW.PrintMore Go.Proofs.Ytdpfopeofeofcaa.QSp
open Go.Proofs.Ytdpfopeofeofcaa
set_option linter.unusedVariables false
set_option linter.unusedSimpArgs false
def cmpI (a b : Int) : Int := if a < b then -1 else if b < a then 1 else 0
def cmpS (a b : ByteArray) : Int := if Op.bytesLess a.toList b.toList = true then -1 else if Op.bytesLess b.toList a.toList = true then 1 else 0
def orI (x y : Int) : Int := if x = 0 then y else x
def cmpA (a b : ByteArray) : Int := orI (cmpI a.size b.size) (cmpS a b)
theorem or_f (x y : Int) (k : Nat) : cmp_Or_int.f (k + 3) [x, y] = some (orI x y) := by
  unfold cmp_Or_int.f orI
  have w1 : wrap64 (0 + 1) = 1 := IntWalk.wrap64_in _ (by omega)
  have w2 : wrap64 (1 + 1) = 2 := IntWalk.wrap64_in _ (by omega)
  simp only [List.length_cons, List.length_nil]
  rw [cmp_Or_int.l0, if_pos (by decide), if_pos (by decide), if_pos (by simp)]
  by_cases hx : x = 0
  · rw [if_pos (by rw [hx]; rfl), w1, cmp_Or_int.l0, if_pos (by decide), if_pos (by decide), if_pos (by simp), if_pos hx]
    by_cases hy : y = 0
    · rw [if_pos (by rw [hy]; rfl), w2, cmp_Or_int.l0, if_neg (by decide), hy]
    · rw [if_neg (by intro h; exact hy h)]
      rfl
  · rw [if_neg (by intro h; exact hx h), if_neg hx]
    rfl
theorem cmpI_f (a b : Int) : cmp_Compare_int.f a b = some (cmpI a b) := by
  unfold cmp_Compare_int.f cmp_isNaN_int.f cmpI
  simp only [Option.bind_some, bne_self_eq_false]
  by_cases h : a < b
  · simp [h]
  · by_cases h' : b < a
    · simp [h, h']
    · simp [h, h']
theorem cmpS_f (a b : ByteArray) : cmp_Compare_string.f a b = some (cmpS a b) := by
  unfold cmp_Compare_string.f cmp_isNaN_string.f cmpS
  simp only [Option.bind_some, bne_self_eq_false]
  by_cases h : Op.bytesLess a.toList b.toList = true
  · simp [h]
  · by_cases h' : Op.bytesLess b.toList a.toList = true
    · simp [h, h']
    · simp [h, h']
theorem cmpA_f (a b : ByteArray) (k : Nat) : addr_Compare.f (k + 3) a b = some (cmpA a b) := by
  unfold addr_Compare.f
  rw [cmpI_f, Option.bind_some, cmpS_f, Option.bind_some, or_f, Option.bind_some]
  rfl
theorem span_f (a b : ByteArray) : ∃ r, pick_span.f 3 a b = some r := by
  unfold pick_span.f
  rw [cmpA_f _ _ 0]
  simp only [Option.bind_some]
  repeat' split
  all_goals exact ⟨_, rfl⟩
theorem within_f (a b c : Int) : ∃ r, pick_within_int.f a b c = some r := by
  unfold pick_within_int.f
  split <;> exact ⟨_, rfl⟩
theorem withinS_f (a b c : ByteArray) : ∃ r, pick_within_string.f a b c = some r := by
  unfold pick_within_string.f
  split <;> exact ⟨_, rfl⟩
theorem ports_f (a b : Int) : ∃ r, pick_ports.f a b = some r := by
  unfold pick_ports.f
  obtain ⟨r, h⟩ := within_f 0 a b
  rw [h, Option.bind_some]
  split <;> exact ⟨_, rfl⟩
theorem pcheck_f (p : S33) : ∃ r, pick_Check.f 3 p.f0.f0 p.f0.f1 p.f1.f0 p.f1.f1 p.f2 p.f3.f0 p.f3.f1 p.f4.f0 p.f4.f1 = some r := by
  unfold pick_Check.f
  obtain ⟨r1, h1⟩ := span_f p.f0.f0 p.f0.f1
  obtain ⟨r2, h2⟩ := span_f p.f1.f0 p.f1.f1
  obtain ⟨r3, h3⟩ := within_f (-1) p.f2 255
  obtain ⟨r4, h4⟩ := ports_f p.f3.f0 p.f3.f1
  obtain ⟨r5, h5⟩ := ports_f p.f4.f0 p.f4.f1
  rw [h1, h2, h3, h4, h5]
  simp only [Option.bind_some]
  repeat' split
  all_goals exact ⟨_, rfl⟩
theorem in_f (a b c : ByteArray) : ∃ r, pick_in.f a b c = some r := by
  unfold pick_in.f
  obtain ⟨r, h⟩ := withinS_f b a c
  rw [h]
  simp only [Option.bind_some]
  repeat' split
  all_goals exact ⟨_, rfl⟩
theorem port_f (a b c : Int) : ∃ r, pick_port.f a b c = some r := by
  unfold pick_port.f
  obtain ⟨r, h⟩ := within_f b a c
  rw [h]
  simp only [Option.bind_some]
  split <;> exact ⟨_, rfl⟩
theorem matches_f (p : S33) (f : S24) : ∃ r, pick_Matches.f 3 p.f0.f0 p.f0.f1 p.f1.f0 p.f1.f1 p.f2 p.f3.f0 p.f3.f1 p.f4.f0 p.f4.f1 f.f0 f.f1 f.f2 f.f3 f.f4 = some r := by
  unfold pick_Matches.f
  obtain ⟨r1, h1⟩ := pcheck_f p
  obtain ⟨r2, h2⟩ := in_f f.f0 p.f0.f0 p.f0.f1
  obtain ⟨r3, h3⟩ := in_f f.f1 p.f1.f0 p.f1.f1
  obtain ⟨r4, h4⟩ := port_f f.f3 p.f3.f0 p.f3.f1
  obtain ⟨r5, h5⟩ := port_f f.f4 p.f4.f0 p.f4.f1
  rw [h1, h2, h3, h4, h5]
  simp only [Option.bind_some]
  repeat' split
  all_goals exact ⟨_, rfl⟩
/-- What pick.Check and pick.Matches answer. -/
def pcheckE (p : S33) : Int := (pick_Check.f 3 p.f0.f0 p.f0.f1 p.f1.f0 p.f1.f1 p.f2 p.f3.f0 p.f3.f1 p.f4.f0 p.f4.f1).getD 0
def matchE (p : S33) (f : S24) : Bool := (pick_Matches.f 3 p.f0.f0 p.f0.f1 p.f1.f0 p.f1.f1 p.f2 p.f3.f0 p.f3.f1 p.f4.f0 p.f4.f1 f.f0 f.f1 f.f2 f.f3 f.f4).getD false
/-- The value of a selector, a flow, a rule. -/
def v33 (p : S33) : Value := .agg #[.string p.f0.f0, .string p.f0.f1, .string p.f1.f0, .string p.f1.f1, .int .i64 p.f2, .int .i64 p.f3.f0, .int .i64 p.f3.f1, .int .i64 p.f4.f0, .int .i64 p.f4.f1]
def v24 (f : S24) : Value := .agg #[.string f.f0, .string f.f1, .int .i64 f.f2, .int .i64 f.f3, .int .i64 f.f4]
theorem pcheck_walk (p : S33) (w : World) : Calls Try.prog 22 #[v33 p] w fun e w' => e = .returned (.int .i64 (pcheckE p)) ∧ Below w.heap.size w w' := by
  obtain ⟨r, h⟩ := pcheck_f p
  have e : pcheckE p = r := by unfold pcheckE; rw [h]; rfl
  rw [e]
  exact pick_Check.calls 3 _ _ _ _ _ _ _ _ _ r w h
theorem matches_walk (p : S33) (f : S24) (w : World) : Calls Try.prog 13 #[v33 p, v24 f] w fun e w' => e = .returned (.bool (matchE p f)) ∧ Below w.heap.size w w' := by
  obtain ⟨r, h⟩ := matches_f p f
  have e : matchE p f = r := by unfold matchE; rw [h]; rfl
  rw [e]
  exact pick_Matches.calls 3 _ _ _ _ _ _ _ _ _ _ _ _ _ _ r w h
theorem info35 : (Try.prog.info? 35).map (fun i => (i.zero, i.size, i.bytes)) = some (some (.agg #[.int .i64 0, .string ByteArray.empty, .string ByteArray.empty, .string ByteArray.empty, .string ByteArray.empty, .int .i64 0, .int .i64 0, .int .i64 0, .int .i64 0, .int .i64 0, .bool false, .bool false, .int .i64 0, .bool false, .string ByteArray.empty, .string ByteArray.empty]), 16, 168) := by kernel_rfl
set_option maxHeartbeats 1600000 in
set_option maxRecDepth 100000 in
theorem clone_walk (A0 : Option Addr) (c0 : Nat) (l0 : List S35) (w : World) (hr0 : Kd.C k35 w A0 l0.length l0) (hlim : l0.length ≤ 100000) :
    Calls Try.prog 19 #[.slice A0 l0.length c0] w fun e w' => (∃ v, e = .returned v ∧ k35.R 35 w' w.heap.size (fun _ => True) v l0) ∧ Below w.heap.size w w' := by
  have HR := Aside0.mk fun (W : World) (hb : Below w.heap.size w W) => Kd.C_below hr0 hb
  have HL := Aside0.mk hlim
  have HB := Aside0.mk (Below.refl w.heap.size w)
  have hn0 := hr0.2.2
  clear hr0
  rcases A0 with _ | ad
  · have hl0 : l0 = [] := by
      rcases Nat.eq_zero_or_pos l0.length with h0 | h0
      · exact List.eq_nil_of_length_eq_zero h0
      · obtain ⟨ad, e, _⟩ := hn0 h0
        cases e
    subst hl0
    clear hn0
    have hnil := fun (W : World) => Lib.run_eql_slice_nil (P := Try.prog) W 41 35 none 0 c0 0 0 Try.underlying41
    go_enter Try.func19, Try.ntmps19
    go_wp2
    go_ret
    exact ⟨⟨_, rfl, Kd.R_nil _ _ _ _ _⟩, HB.out⟩
  · clear hn0 hlim
    have hnil := fun (W : World) => Lib.run_eql_slice_nil (P := Try.prog) W 41 35 (some ad) l0.length c0 0 0 Try.underlying41
    go_enter Try.func19, Try.ntmps19
    go_wp2_with (first | ((with_reducible refine gate_dst (N := 5) rfl ?_); refine Kd.R_lit k35 (w0 := w) w.heap.size 35 ?hg (N := 5) ?hd (xs := ([] : List S35)) (inner := []) (ok := fun _ => True) (okp := fun _ => True) ?hr ?hp (fun _ hk => hk) trivial HB.out HB.out.size (by simp) ?_; (case hd => rfl); (case hg => rfl); (case hr => first | (go_simp; done) | (go_simp; rfl)); (case hp => exact Reps.none _ _); intro v5 w5 ho hb hg_ hnew_; have HO5 := Aside0.mk ho; have HB5 := Aside0.mk hb; clear ho hb hg_ hnew_) | ((with_reducible refine gate_builtin (b := .append) (xs := #[.tmp 5, .tmp 6]) rfl ?_); at_builtin; refine Kd.R_append_rows k35 (Rr := k35.K w5) (w0 := w) w.heap.size rfl (.tmp 5) (.tmp 6) 41 35 (.agg #[.int .i64 0, .string ByteArray.empty, .string ByteArray.empty, .string ByteArray.empty, .string ByteArray.empty, .int .i64 0, .int .i64 0, .int .i64 0, .int .i64 0, .int .i64 0, .bool false, .bool false, .int .i64 0, .bool false, .string ByteArray.empty, .string ByteArray.empty]) 168 rfl Try.underlying41 info35 rfl (by decide) (by decide) v5 [] l0 (some ad) l0.length c0 (fun _ => True) (fun _ => False) rfl rfl HO5.out ?aR (fun _ _ h => by rw [k35_open h]; exact k35_mkM _ _ _ _) (fun _ h => h.elim) (fun _ _ => trivial) HB5.out HB5.out.size ?aL ?_; (case aR => exact HR.out _ HB5.out); (case aL => have := HL.out; simp; omega); intro v6 w6 ho hb hg hat; have HO := Aside0.mk (show k35.R 35 w6 w.heap.size (fun _ => True) v6 l0 from ho); have HB6 := Aside0.mk hb; clear ho hb hg hat))
    go_ret
    exact ⟨⟨_, rfl, HO.out⟩, HB6.out⟩
end Go.Proofs.Ytdpfopeofeofcaa.Sp

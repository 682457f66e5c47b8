/- copy and append(s, make(..)...) over rows whose elements are several cells. Cells of a block stored one behind the other. Strings' order; pick's functions answer always; slices.Clone of rules. Rows of rules of one's own, cell by cell. slices.Insert of one rule at the end; what the operations of the other ways run to. (Texts of this session, put together by wip/tools/merge.py.) -/
import Derived.Test.YtdpfopeofeofcaaWWords
import Derived.Laws.CopyRow
import Derived.Test.YtdpfopeofeofcaaQSpx31
import Derived.Test.YtdpfopeofeofcaaQSpx32
import Derived.Test.YtdpfopeofeofcaaWLast
import Derived.Test.YtdpfopeofeofcaaWMore
import Derived.BigQuiet
import Derived.WalkLawsBesides
import Derived.Lib.AppendZerosOnto
import Derived.Lib.Overlaps
import Derived.Laws.Externs
namespace Go.Proofs.Ytdpfopeofeofcaa.CopyRows
open Go.RowKit Go.Proofs.YtdpfopeofeofcaaW.PrintWords
variable {P : Program}
theorem run_copy_rowZ (w : World) (dT sT ty elem : TypeId) (g o dLen dCap : Nat) (a : Addr) (sLen sCap : Nat) (cur : Array Value) (t : TypeId) (cs : List Value) (z : Nat)
    (hu : P.underlying dT = some (.slice elem)) (hs : (P.info? elem).map (·.size) = some z)
    (hg : w.heap[g]? = some (.cells cur t (0, 0))) (hn : cs.length = Nat.min sLen dLen * z)
    (hsrc : ∀ j v, cs[j]? = some v → w.cell? (a.add j) = some v) (hfit : o + cs.length ≤ cur.size) (h1 : ∀ v ∈ cs, v.oneCell' = true) :
    (Builtin.copy_ #[dT, sT] ty #[.slice (some ⟨g, o, none⟩) dLen dCap, .slice (some a) sLen sCap]).run P w =
      .ok (goInt (Nat.min sLen dLen)) (w.setRow g (cur.toList.take o ++ cs ++ cur.toList.drop (o + cs.length)).toArray) := by
  have hl := run_loadCells_list (P := P) w a cs hsrc
  have hst := run_storeCells_at P g o t cs 0 cur w hg (by simpa using hfit) h1
  cases hq : P.info? elem with
  | none => simp [hq] at hs
  | some i =>
    have hi : i.size = z := by simpa [hq] using hs
    simp [Builtin.copy_, run_underlying hu, Builtin.lenOf, Builtin.firstCells, sizeOf, typeInfo, hq, hi, ← hn, hl, hst]
end Go.Proofs.Ytdpfopeofeofcaa.CopyRows
namespace Go.Proofs.Ytdpfopeofeofcaa.Cells
open Go.RowKit Go.Proofs.YtdpfopeofeofcaaW.PrintWords
def setAll (w : World) (q : Nat) : Nat → List Value → World
  | _, [] => w
  | i, v :: l => setAll (w.setCell ⟨q, i, none⟩ v) q (i + 1) l
def setA (cs : Array Value) : Nat → List Value → Array Value
  | _, [] => cs
  | i, v :: l => setA (cs.setIfInBounds i v) (i + 1) l
theorem setAll_far {g q : Nat} (h : g ≠ q) : ∀ (l : List Value) (i : Nat) (w : World), (setAll w q i l).heap[g]? = w.heap[g]?
  | [], _, _ => rfl
  | v :: l, i, w => by rw [setAll, setAll_far h l]; exact Below.heap_setCell w _ v g h
theorem setAll_blk {q : Nat} {t : TypeId} : ∀ (l : List Value) (i : Nat) (w : World) (cs : Array Value), w.heap[q]? = some (.cells cs t (0, 0)) → (setAll w q i l).heap[q]? = some (.cells (setA cs i l) t (0, 0))
  | [], _, _, _, h => h
  | v :: l, i, w, cs, h => by rw [setAll, setA]; exact setAll_blk l _ _ _ (blk_set h i v)
theorem setAll_below {B q : Nat} {w0 : World} (hq : B ≤ q) : ∀ (l : List Value) (i : Nat) (w : World), Below B w0 w → Below B w0 (setAll w q i l)
  | [], _, _, h => h
  | v :: l, i, w, h => by rw [setAll]; exact setAll_below hq l _ _ (Below.setCell h hq v)
theorem setAll_R {α : Type} {d : Kd α} {e : TypeId} {base q : Nat} {ok : Nat → Prop} {v : Value} {xs : List α} {t : TypeId} (ht : ∀ k, k ∈ e :: d.E → k ≠ t) : ∀ (l : List Value) (i : Nat) (w : World) (cs : Array Value), w.heap[q]? = some (.cells cs t (0, 0)) → d.R e w base ok v xs → d.R e (setAll w q i l) base ok v xs
  | [], _, _, _, _, h => h
  | u :: l, i, w, cs, hb, h => by rw [setAll]; exact setAll_R ht l _ _ _ (blk_set hb i u) (Kd.R_set h hb ht i u)
theorem setAll_size (q : Nat) : ∀ (l : List Value) (i : Nat) (w : World), (setAll w q i l).heap.size = w.heap.size
  | [], _, _ => rfl
  | v :: l, i, w => by rw [setAll, setAll_size q l]; simp [World.setCell]
theorem stored2 {w : World} {q : Nat} {t : TypeId} {z0 z1 v0 v1 : Value} (h : w.heap[q]? = some (.cells #[z0, z1] t (0, 0))) : (setAll w q 0 [v0, v1]).heap[q]? = some (.cells #[v0, v1] t (0, 0)) := by
  have := setAll_blk [v0, v1] 0 w _ h
  simpa [setA] using this
theorem stored3 {w : World} {q : Nat} {t : TypeId} {z0 z1 z2 v0 v1 v2 : Value} (h : w.heap[q]? = some (.cells #[z0, z1, z2] t (0, 0))) : (setAll w q 0 [v0, v1, v2]).heap[q]? = some (.cells #[v0, v1, v2] t (0, 0)) := by
  have := setAll_blk [v0, v1, v2] 0 w _ h
  simpa [setA] using this
theorem stored4 {w : World} {q : Nat} {t : TypeId} {z0 z1 z2 z3 v0 v1 v2 v3 : Value} (h : w.heap[q]? = some (.cells #[z0, z1, z2, z3] t (0, 0))) : (setAll w q 0 [v0, v1, v2, v3]).heap[q]? = some (.cells #[v0, v1, v2, v3] t (0, 0)) := by
  have := setAll_blk [v0, v1, v2, v3] 0 w _ h
  simpa [setA] using this
theorem stored5 {w : World} {q : Nat} {t : TypeId} {z0 z1 z2 z3 z4 v0 v1 v2 v3 v4 : Value} (h : w.heap[q]? = some (.cells #[z0, z1, z2, z3, z4] t (0, 0))) : (setAll w q 0 [v0, v1, v2, v3, v4]).heap[q]? = some (.cells #[v0, v1, v2, v3, v4] t (0, 0)) := by
  have := setAll_blk [v0, v1, v2, v3, v4] 0 w _ h
  simpa [setA] using this
theorem stored6 {w : World} {q : Nat} {t : TypeId} {z0 z1 z2 z3 z4 z5 v0 v1 v2 v3 v4 v5 : Value} (h : w.heap[q]? = some (.cells #[z0, z1, z2, z3, z4, z5] t (0, 0))) : (setAll w q 0 [v0, v1, v2, v3, v4, v5]).heap[q]? = some (.cells #[v0, v1, v2, v3, v4, v5] t (0, 0)) := by
  have := setAll_blk [v0, v1, v2, v3, v4, v5] 0 w _ h
  simpa [setA] using this
theorem stored8 {w : World} {q : Nat} {t : TypeId} {z0 z1 z2 z3 z4 z5 z6 z7 v0 v1 v2 v3 v4 v5 v6 v7 : Value} (h : w.heap[q]? = some (.cells #[z0, z1, z2, z3, z4, z5, z6, z7] t (0, 0))) : (setAll w q 0 [v0, v1, v2, v3, v4, v5, v6, v7]).heap[q]? = some (.cells #[v0, v1, v2, v3, v4, v5, v6, v7] t (0, 0)) := by
  have := setAll_blk [v0, v1, v2, v3, v4, v5, v6, v7] 0 w _ h
  simpa [setA] using this
/-- What lies below stays: a kept reading. -/
theorem setAll_C {α : Type} {d : Kd α} {q n : Nat} {A : Option Addr} {xs : List α} {w0 w : World} (h : d.C w0 A n xs) (hb : Below w0.heap.size w0 w) (hq : w0.heap.size ≤ q) (l : List Value) (i : Nat) : d.C (setAll w q i l) A n xs :=
  Kd.C_below h (setAll_below hq l i w hb)
theorem results_c {P : Program} {fn : Func} {p : Tmp} {ty : TypeId} (h : fn.results = #[.cell p ty]) (tmps : Array Value) (w : World) (g : Nat) (t : TypeId) (cs : Array Value) (fr : Nat × Nat) (d : TypeDesc)
    (hp : tmps.getD p undef = .pointer (some ⟨g, 0, none⟩)) (hg : w.heap[g]? = some (.cells cs t fr))
    (hu : P.underlying ty = some d) (hd : (match d with | .struct _ | .array _ _ => true | _ => false) = true) (hi : (P.info? ty).map (·.size) = some cs.size) :
    (results fn tmps).run P w = .ok (.agg cs) w := by
  have hp' : tmps[p]?.getD undef = .pointer (some ⟨g, 0, none⟩) := by simpa using hp
  simp [results, h, hp', asAddr, run_loadVar_row w g t ty cs fr d hg hu hd hi]
end Go.Proofs.Ytdpfopeofeofcaa.Cells
namespace Go.Proofs.Ytdpfopeofeofcaa.Sp
open Go.RowKit Go.Proofs.YtdpfopeofeofcaaW.PrintWords Go.Proofs.YtdpfopeofeofcaaW.PrintLast Go.Proofs.YtdpfopeofeofcaaW.PrintMore Go.Proofs.Ytdpfopeofeofcaa.QSp
open Go.Proofs.Ytdpfopeofeofcaa
set_option linter.unusedVariables false
set_option linter.unusedSimpArgs false
def cmpI (a b : Int) : Int := if a < b then -1 else if b < a then 1 else 0
def cmpS (a b : ByteArray) : Int := if Op.bytesLess a.toList b.toList = true then -1 else if Op.bytesLess b.toList a.toList = true then 1 else 0
def orI (x y : Int) : Int := if x = 0 then y else x
def cmpA (a b : ByteArray) : Int := orI (cmpI a.size b.size) (cmpS a b)
theorem or_f (x y : Int) (k : Nat) : cmp_Or_int.f (k + 3) [x, y] = some (orI x y) := by
  unfold cmp_Or_int.f orI
  have w1 : wrap64 (0 + 1) = 1 := IntWalk.wrap64_in _ (by omega)
  have w2 : wrap64 (1 + 1) = 2 := IntWalk.wrap64_in _ (by omega)
  simp only [List.length_cons, List.length_nil]
  rw [cmp_Or_int.l0, if_pos (by decide), if_pos (by decide), if_pos (by simp)]
  by_cases hx : x = 0
  · rw [if_pos (by rw [hx]; rfl), w1, cmp_Or_int.l0, if_pos (by decide), if_pos (by decide), if_pos (by simp), if_pos hx]
    by_cases hy : y = 0
    · rw [if_pos (by rw [hy]; rfl), w2, cmp_Or_int.l0, if_neg (by decide), hy]
    · rw [if_neg (by intro h; exact hy h)]
      rfl
  · rw [if_neg (by intro h; exact hx h), if_neg hx]
    rfl
theorem cmpI_f (a b : Int) : cmp_Compare_int.f a b = some (cmpI a b) := by
  unfold cmp_Compare_int.f cmp_isNaN_int.f cmpI
  simp only [Option.bind_some, bne_self_eq_false]
  by_cases h : a < b
  · simp [h]
  · by_cases h' : b < a
    · simp [h, h']
    · simp [h, h']
theorem cmpS_f (a b : ByteArray) : cmp_Compare_string.f a b = some (cmpS a b) := by
  unfold cmp_Compare_string.f cmp_isNaN_string.f cmpS
  simp only [Option.bind_some, bne_self_eq_false]
  by_cases h : Op.bytesLess a.toList b.toList = true
  · simp [h]
  · by_cases h' : Op.bytesLess b.toList a.toList = true
    · simp [h, h']
    · simp [h, h']
theorem cmpA_f (a b : ByteArray) (k : Nat) : addr_Compare.f (k + 3) a b = some (cmpA a b) := by
  unfold addr_Compare.f
  rw [cmpI_f, Option.bind_some, cmpS_f, Option.bind_some, or_f, Option.bind_some]
  rfl
theorem span_f (a b : ByteArray) : ∃ r, pick_span.f 3 a b = some r := by
  unfold pick_span.f
  rw [cmpA_f _ _ 0]
  simp only [Option.bind_some]
  repeat' split
  all_goals exact ⟨_, rfl⟩
theorem within_f (a b c : Int) : ∃ r, pick_within_int.f a b c = some r := by
  unfold pick_within_int.f
  split <;> exact ⟨_, rfl⟩
theorem withinS_f (a b c : ByteArray) : ∃ r, pick_within_string.f a b c = some r := by
  unfold pick_within_string.f
  split <;> exact ⟨_, rfl⟩
theorem ports_f (a b : Int) : ∃ r, pick_ports.f a b = some r := by
  unfold pick_ports.f
  obtain ⟨r, h⟩ := within_f 0 a b
  rw [h, Option.bind_some]
  split <;> exact ⟨_, rfl⟩
theorem pcheck_f (p : S33) : ∃ r, pick_Check.f 3 p.f0.f0 p.f0.f1 p.f1.f0 p.f1.f1 p.f2 p.f3.f0 p.f3.f1 p.f4.f0 p.f4.f1 = some r := by
  unfold pick_Check.f
  obtain ⟨r1, h1⟩ := span_f p.f0.f0 p.f0.f1
  obtain ⟨r2, h2⟩ := span_f p.f1.f0 p.f1.f1
  obtain ⟨r3, h3⟩ := within_f (-1) p.f2 255
  obtain ⟨r4, h4⟩ := ports_f p.f3.f0 p.f3.f1
  obtain ⟨r5, h5⟩ := ports_f p.f4.f0 p.f4.f1
  rw [h1, h2, h3, h4, h5]
  simp only [Option.bind_some]
  repeat' split
  all_goals exact ⟨_, rfl⟩
theorem in_f (a b c : ByteArray) : ∃ r, pick_in.f a b c = some r := by
  unfold pick_in.f
  obtain ⟨r, h⟩ := withinS_f b a c
  rw [h]
  simp only [Option.bind_some]
  repeat' split
  all_goals exact ⟨_, rfl⟩
theorem port_f (a b c : Int) : ∃ r, pick_port.f a b c = some r := by
  unfold pick_port.f
  obtain ⟨r, h⟩ := within_f b a c
  rw [h]
  simp only [Option.bind_some]
  split <;> exact ⟨_, rfl⟩
theorem matches_f (p : S33) (f : S24) : ∃ r, pick_Matches.f 3 p.f0.f0 p.f0.f1 p.f1.f0 p.f1.f1 p.f2 p.f3.f0 p.f3.f1 p.f4.f0 p.f4.f1 f.f0 f.f1 f.f2 f.f3 f.f4 = some r := by
  unfold pick_Matches.f
  obtain ⟨r1, h1⟩ := pcheck_f p
  obtain ⟨r2, h2⟩ := in_f f.f0 p.f0.f0 p.f0.f1
  obtain ⟨r3, h3⟩ := in_f f.f1 p.f1.f0 p.f1.f1
  obtain ⟨r4, h4⟩ := port_f f.f3 p.f3.f0 p.f3.f1
  obtain ⟨r5, h5⟩ := port_f f.f4 p.f4.f0 p.f4.f1
  rw [h1, h2, h3, h4, h5]
  simp only [Option.bind_some]
  repeat' split
  all_goals exact ⟨_, rfl⟩
/-- What pick.Check and pick.Matches answer. -/
def pcheckE (p : S33) : Int := (pick_Check.f 3 p.f0.f0 p.f0.f1 p.f1.f0 p.f1.f1 p.f2 p.f3.f0 p.f3.f1 p.f4.f0 p.f4.f1).getD 0
def matchE (p : S33) (f : S24) : Bool := (pick_Matches.f 3 p.f0.f0 p.f0.f1 p.f1.f0 p.f1.f1 p.f2 p.f3.f0 p.f3.f1 p.f4.f0 p.f4.f1 f.f0 f.f1 f.f2 f.f3 f.f4).getD false
/-- The value of a selector, a flow, a rule. -/
def v33 (p : S33) : Value := .agg #[.string p.f0.f0, .string p.f0.f1, .string p.f1.f0, .string p.f1.f1, .int .i64 p.f2, .int .i64 p.f3.f0, .int .i64 p.f3.f1, .int .i64 p.f4.f0, .int .i64 p.f4.f1]
def v24 (f : S24) : Value := .agg #[.string f.f0, .string f.f1, .int .i64 f.f2, .int .i64 f.f3, .int .i64 f.f4]
theorem pcheck_walk (p : S33) (w : World) : Calls Try.prog 22 #[v33 p] w fun e w' => e = .returned (.int .i64 (pcheckE p)) ∧ Below w.heap.size w w' := by
  obtain ⟨r, h⟩ := pcheck_f p
  have e : pcheckE p = r := by unfold pcheckE; rw [h]; rfl
  rw [e]
  exact pick_Check.calls 3 _ _ _ _ _ _ _ _ _ r w h
theorem matches_walk (p : S33) (f : S24) (w : World) : Calls Try.prog 13 #[v33 p, v24 f] w fun e w' => e = .returned (.bool (matchE p f)) ∧ Below w.heap.size w w' := by
  obtain ⟨r, h⟩ := matches_f p f
  have e : matchE p f = r := by unfold matchE; rw [h]; rfl
  rw [e]
  exact pick_Matches.calls 3 _ _ _ _ _ _ _ _ _ _ _ _ _ _ r w h
theorem info35 : (Try.prog.info? 35).map (fun i => (i.zero, i.size, i.bytes)) = some (some (.agg #[.int .i64 0, .string ByteArray.empty, .string ByteArray.empty, .string ByteArray.empty, .string ByteArray.empty, .int .i64 0, .int .i64 0, .int .i64 0, .int .i64 0, .int .i64 0, .bool false, .bool false, .int .i64 0, .bool false, .string ByteArray.empty, .string ByteArray.empty]), 16, 168) := by kernel_rfl
set_option maxHeartbeats 1600000 in
set_option maxRecDepth 100000 in
theorem clone_walk (A0 : Option Addr) (c0 : Nat) (l0 : List S35) (w : World) (hr0 : Kd.C k35 w A0 l0.length l0) (hlim : l0.length ≤ 100000) :
    Calls Try.prog 19 #[.slice A0 l0.length c0] w fun e w' => (∃ v, e = .returned v ∧ k35.R 35 w' w.heap.size (fun _ => True) v l0) ∧ Below w.heap.size w w' := by
  have HR := Aside0.mk fun (W : World) (hb : Below w.heap.size w W) => Kd.C_below hr0 hb
  have HL := Aside0.mk hlim
  have HB := Aside0.mk (Below.refl w.heap.size w)
  have hn0 := hr0.2.2
  clear hr0
  rcases A0 with _ | ad
  · have hl0 : l0 = [] := by
      rcases Nat.eq_zero_or_pos l0.length with h0 | h0
      · exact List.eq_nil_of_length_eq_zero h0
      · obtain ⟨ad, e, _⟩ := hn0 h0
        cases e
    subst hl0
    clear hn0
    have hnil := fun (W : World) => Lib.run_eql_slice_nil (P := Try.prog) W 41 35 none 0 c0 0 0 Try.underlying41
    go_enter Try.func19, Try.ntmps19
    go_wp2
    go_ret
    exact ⟨⟨_, rfl, Kd.R_nil _ _ _ _ _⟩, HB.out⟩
  · clear hn0 hlim
    have hnil := fun (W : World) => Lib.run_eql_slice_nil (P := Try.prog) W 41 35 (some ad) l0.length c0 0 0 Try.underlying41
    go_enter Try.func19, Try.ntmps19
    go_wp2_with (first | ((with_reducible refine gate_dst (N := 5) rfl ?_); refine Kd.R_lit k35 (w0 := w) w.heap.size 35 ?hg (N := 5) ?hd (xs := ([] : List S35)) (inner := []) (ok := fun _ => True) (okp := fun _ => True) ?hr ?hp (fun _ hk => hk) trivial HB.out HB.out.size (by simp) ?_; (case hd => rfl); (case hg => rfl); (case hr => first | (go_simp; done) | (go_simp; rfl)); (case hp => exact Reps.none _ _); intro v5 w5 ho hb hg_ hnew_; have HO5 := Aside0.mk ho; have HB5 := Aside0.mk hb; clear ho hb hg_ hnew_) | ((with_reducible refine gate_builtin (b := .append) (xs := #[.tmp 5, .tmp 6]) rfl ?_); at_builtin; refine Kd.R_append_rows k35 (Rr := k35.K w5) (w0 := w) w.heap.size rfl (.tmp 5) (.tmp 6) 41 35 (.agg #[.int .i64 0, .string ByteArray.empty, .string ByteArray.empty, .string ByteArray.empty, .string ByteArray.empty, .int .i64 0, .int .i64 0, .int .i64 0, .int .i64 0, .int .i64 0, .bool false, .bool false, .int .i64 0, .bool false, .string ByteArray.empty, .string ByteArray.empty]) 168 rfl Try.underlying41 info35 rfl (by decide) (by decide) v5 [] l0 (some ad) l0.length c0 (fun _ => True) (fun _ => False) rfl rfl HO5.out ?aR (fun _ _ h => by rw [k35_open h]; exact k35_mkM _ _ _ _) (fun _ h => h.elim) (fun _ _ => trivial) HB5.out HB5.out.size ?aL ?_; (case aR => exact HR.out _ HB5.out); (case aL => have := HL.out; simp; omega); intro v6 w6 ho hb hg hat; have HO := Aside0.mk (show k35.R 35 w6 w.heap.size (fun _ => True) v6 l0 from ho); have HB6 := Aside0.mk hb; clear ho hb hg hat))
    go_ret
    exact ⟨⟨_, rfl, HO.out⟩, HB6.out⟩
end Go.Proofs.Ytdpfopeofeofcaa.Sp
namespace Go.Proofs.Ytdpfopeofeofcaa.Sp
open Go.RowKit Go.Proofs.YtdpfopeofeofcaaW.PrintWords Go.Proofs.YtdpfopeofeofcaaW.PrintLast Go.Proofs.YtdpfopeofeofcaaW.PrintMore Go.Proofs.Ytdpfopeofeofcaa.QSp
open Go.Proofs.Ytdpfopeofeofcaa
set_option linter.unusedVariables false
set_option linter.unusedSimpArgs false
/-- The cells of a rule. -/
def enc35 (x : S35) : List Value := [.int .i64 x.f0, .string x.f1.f0.f0, .string x.f1.f0.f1, .string x.f1.f1.f0, .string x.f1.f1.f1, .int .i64 x.f1.f2, .int .i64 x.f1.f3.f0, .int .i64 x.f1.f3.f1, .int .i64 x.f1.f4.f0, .int .i64 x.f1.f4.f1, .bool x.f2, .bool x.f3, .int .i64 x.f4, .bool x.f5, .string x.f6, .string x.f7]
def encs35 (l : List S35) : List Value := l.flatMap enc35
theorem encs_cons (x : S35) (l : List S35) : encs35 (x :: l) = enc35 x ++ encs35 l := by simp [encs35]
theorem encs_append (l m : List S35) : encs35 (l ++ m) = encs35 l ++ encs35 m := by simp [encs35]
theorem encs_len : ∀ (l : List S35), (encs35 l).length = l.length * 16
  | [] => rfl
  | x :: l => by
    rw [encs_cons, List.length_append, encs_len l, List.length_cons]
    show 16 + _ = _
    omega
theorem encs_take (l : List S35) (i : Nat) (h : i ≤ l.length) : (encs35 l).take (i * 16) = encs35 (l.take i) := by
  have e : encs35 l = encs35 (l.take i) ++ encs35 (l.drop i) := by rw [← encs_append, List.take_append_drop]
  rw [e]
  exact List.take_left' (by rw [encs_len, List.length_take, Nat.min_eq_left h])
theorem encs_drop (l : List S35) (i : Nat) (h : i ≤ l.length) : (encs35 l).drop (i * 16) = encs35 (l.drop i) := by
  have e : encs35 l = encs35 (l.take i) ++ encs35 (l.drop i) := by rw [← encs_append, List.take_append_drop]
  rw [e]
  exact List.drop_left' (by rw [encs_len, List.length_take, Nat.min_eq_left h])
theorem encs_one (l : List S35) : ∀ u ∈ encs35 l, u.oneCell' = true := by
  intro u hu
  obtain ⟨x, _, hx⟩ := List.mem_flatMap.1 hu
  simp only [enc35, List.mem_cons, List.not_mem_nil, or_false] at hx
  rcases hx with rfl | rfl | rfl | rfl | rfl | rfl | rfl | rfl | rfl | rfl | rfl | rfl | rfl | rfl | rfl | rfl <;> rfl
theorem enc_one (x : S35) : ∀ u ∈ enc35 x, u.oneCell' = true := by
  intro u hu
  simp only [enc35, List.mem_cons, List.not_mem_nil, or_false] at hu
  rcases hu with rfl | rfl | rfl | rfl | rfl | rfl | rfl | rfl | rfl | rfl | rfl | rfl | rfl | rfl | rfl | rfl <;> rfl
/-- A row of rules of one's own. -/
def OwnT (w : World) (base : Nat) (v : Value) (l : List S35) : Prop := w.ownsRow base 35 16 v l.length (encs35 l)
theorem reps_enc : ∀ {R : S35 → List Value → Prop} (hR : ∀ x cs, R x cs → cs = enc35 x) (l : List S35) (inner : List Value), Reps R 16 l inner → inner = encs35 l := by
  intro R hR l
  induction l with
  | nil =>
    intro inner h
    exact List.eq_nil_of_length_eq_zero (by have := h.1; simpa using this)
  | cons x l ih =>
    intro inner h
    have h0 := hR _ _ (h.2 0 x rfl)
    rw [Nat.zero_mul, List.drop_zero] at h0
    have h1 : Reps R 16 l (inner.drop 16) := ⟨by rw [List.length_drop, h.1, List.length_cons]; omega, fun j p hj => by
      have h2 := h.2 (j + 1) p (by simpa using hj)
      rwa [List.drop_drop, show 16 + j * 16 = (j + 1) * 16 by omega]⟩
    rw [encs_cons, ← h0, ← ih _ h1, List.take_append_drop]
theorem reps_of : ∀ {R : S35 → List Value → Prop} (hR : ∀ x, R x (enc35 x)) (l : List S35), Reps R 16 l (encs35 l) := by
  intro R hR l
  refine ⟨encs_len l, fun j p hj => ?_⟩
  have hl := (List.getElem?_eq_some_iff.1 hj).1
  have e : (encs35 l).drop (j * 16) = encs35 (l.drop j) := encs_drop l j (by omega)
  rw [e, List.drop_eq_getElem_cons hl, encs_cons]
  have hp : l[j] = p := by
    have := List.getElem?_eq_getElem hl
    rw [hj] at this
    exact (Option.some.inj this).symm
  rw [show (enc35 l[j] ++ encs35 (l.drop (j + 1))).take 16 = enc35 l[j] from List.take_left' rfl, hp]
  exact hR p
theorem own_of_R {w : World} {base : Nat} {ok : Nat → Prop} {v : Value} {l : List S35} (h : k35.R 35 w base ok v l) : OwnT w base v l := by
  obtain ⟨_, inner, ho, hr⟩ := h
  have e := reps_enc (fun x cs hx => by
    have := k35_open (k35.K_of_M hx)
    exact this) l inner hr
  subst e
  exact ho
theorem R_of_own {w : World} {base : Nat} {v : Value} {l : List S35} (h : OwnT w base v l) : k35.R 35 w base (fun _ => True) v l :=
  ⟨fun _ _ => trivial, encs35 l, h, reps_of (fun x => k35_mkM _ _ _ _) l⟩
end Go.Proofs.Ytdpfopeofeofcaa.Sp
namespace Go.Proofs.Ytdpfopeofeofcaa.Sp
open Go.RowKit Go.Proofs.YtdpfopeofeofcaaW.PrintWords Go.Proofs.YtdpfopeofeofcaaW.PrintLast Go.Proofs.YtdpfopeofeofcaaW.PrintMore Go.Proofs.Ytdpfopeofeofcaa.QSp
open Go.Proofs.Ytdpfopeofeofcaa
set_option linter.unusedVariables false
set_option linter.unusedSimpArgs false
/-- What Insert leaves. -/
def InsP (w : World) (base : Nat) (v : Value) (l' : List S35) (e : Ending) (w' : World) : Prop :=
  ∃ v', e = .returned v' ∧ OwnT w' base v' l' ∧ w.grownBy w' v.ownBlock ∧ (v'.ownBlock = v.ownBlock ∨ ∃ b, v'.ownBlock = some b ∧ w.heap.size ≤ b)
/-- One route in a block of its own. -/
theorem one_C {w : World} {vb : Nat} {x : S35} (h : w.heap[vb]? = some (.cells (enc35 x).toArray 35 (0, 0))) : Kd.C k35 w (some ⟨vb, 0, none⟩) 1 [x] :=
  ⟨rfl, by omega, fun _ => ⟨_, rfl, fun j p hj => by
    obtain ⟨rfl, rfl⟩ : j = 0 ∧ x = p := by
      cases j with
      | zero => exact ⟨rfl, by simpa using hj⟩
      | succ j => simp at hj
    refine ⟨enc35 x, rfl, k35_mk _ _, fun i u hu => ?_⟩
    rw [Nat.zero_mul, Nat.zero_add, add_plain, blk_cell h]
    simpa using hu⟩⟩
set_option maxHeartbeats 1600000 in
set_option maxRecDepth 100000 in
theorem insert_end (base vb : Nat) (A : Option Addr) (c : Nat) (l : List S35) (x : S35) (w : World) (h : OwnT w base (.slice A l.length c) l) (hv : w.heap[vb]? = some (.cells (enc35 x).toArray 35 (0, 0))) (hlim : l.length ≤ 1000) (hbase : base ≤ w.heap.size) :
    Calls Try.prog 18 #[.slice A l.length c, .int .i64 l.length, .slice (some ⟨vb, 0, none⟩) 1 1] w (InsP w base (.slice A l.length c) (l ++ [x])) := by
  have HO := Aside0.mk (R_of_own h)
  have HC := Aside0.mk (one_C hv)
  have HL := Aside0.mk hlim
  have HB := Aside0.mk hbase
  have hnc : l.length ≤ c := (Kd.R_reads' (R_of_own h)).2.1
  clear h hv hbase
  obtain ⟨n, hn⟩ : ∃ n, l.length = n := ⟨_, rfl⟩
  have HN := Aside0.mk hn
  rw [hn] at hlim hnc HO ⊢
  clear hn
  have hcc : (n : Int) ≤ (c : Int) := by omega
  by_cases hcn : c = n
  · obtain rfl : n = c := hcn.symm
    clear hcc hnc
    go_enter Try.func18, Try.ntmps18
    go_wp2_with (first | ((with_reducible refine gate_builtin (b := .append) (xs := #[.tmp 23, .tmp 24]) rfl ?_); at_builtin; refine Kd.R_append_rows k35 (Rr := k35.K w) (w0 := w) base rfl (.tmp 23) (.tmp 24) 41 35 (.agg #[.int .i64 0, .string ByteArray.empty, .string ByteArray.empty, .string ByteArray.empty, .string ByteArray.empty, .int .i64 0, .int .i64 0, .int .i64 0, .int .i64 0, .int .i64 0, .bool false, .bool false, .int .i64 0, .bool false, .string ByteArray.empty, .string ByteArray.empty]) 168 rfl Try.underlying41 info35 rfl (by decide) (by decide) (.slice A n n) l [x] (some ⟨vb, 0, none⟩) 1 1 (fun _ => True) (fun _ => False) rfl rfl HO.out HC.out (fun _ _ h => by rw [k35_open h]; exact k35_mkM _ _ _ _) (fun _ h => h.elim) (fun _ _ => trivial) (Below.refl _ _ |>.mono HB.out) HB.out ?aL ?_; (case aL => have := HL.out; simp; omega); intro v6 w6 ho hb hg hat; have HO6 := Aside0.mk ho; have HG6 := Aside0.mk hg; have HA6 := Aside0.mk hat; clear ho hb hg hat))
    go_ret
    exact ⟨_, rfl, own_of_R HO6.out, HG6.out, HA6.out⟩
  · have hcn' : ¬ (n = c) := fun h => hcn h.symm
    go_enter Try.func18, Try.ntmps18
    go_wp2_with (first | ((with_reducible refine gate_builtin (b := .append) (xs := #[.tmp 23, .tmp 24]) rfl ?_); at_builtin; refine Kd.R_append_rows k35 (Rr := k35.K w) (w0 := w) base rfl (.tmp 23) (.tmp 24) 41 35 (.agg #[.int .i64 0, .string ByteArray.empty, .string ByteArray.empty, .string ByteArray.empty, .string ByteArray.empty, .int .i64 0, .int .i64 0, .int .i64 0, .int .i64 0, .int .i64 0, .bool false, .bool false, .int .i64 0, .bool false, .string ByteArray.empty, .string ByteArray.empty]) 168 rfl Try.underlying41 info35 rfl (by decide) (by decide) (.slice A n c) l [x] (some ⟨vb, 0, none⟩) 1 1 (fun _ => True) (fun _ => False) rfl rfl HO.out HC.out (fun _ _ h => by rw [k35_open h]; exact k35_mkM _ _ _ _) (fun _ h => h.elim) (fun _ _ => trivial) (Below.refl _ _ |>.mono HB.out) HB.out ?aL ?_; (case aL => have := HL.out; simp; omega); intro v6 w6 ho hb hg hat; have HO6 := Aside0.mk ho; have HG6 := Aside0.mk hg; have HA6 := Aside0.mk hat; clear ho hb hg hat))
    go_ret
    exact ⟨_, rfl, own_of_R HO6.out, HG6.out, HA6.out⟩
end Go.Proofs.Ytdpfopeofeofcaa.Sp

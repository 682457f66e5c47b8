/- ip6.Bytes refusing; ip6.Parse. -/
import Derived.Test.YtpodidgdlcfaeaaIp6E
import Derived.BigQuiet
namespace Go.Proofs.Ytpodidgdlcfaeaa.Ip6
open Go.RowKit Go.Proofs.YtpodidgdlcfaeaaW.PrintWords Go.Proofs.YtpodidgdlcfaeaaW.PrintLast Go.Proofs.YtpodidgdlcfaeaaW.PrintMore Go.Proofs.Ytpodidgdlcfaeaa.PIp6Lays
set_option linter.unusedVariables false
set_option linter.unusedSimpArgs false
set_option maxHeartbeats 8000000 in
set_option maxRecDepth 100000 in
theorem bytesErr_walk (p : Pk) (A5 A7 : Option Addr) (c5 c7 : Nat) (hp : Small p) (w : World) (hr : PkR w p A5 c5 A7 c7) (hbad : checkE p ≠ 0) :
    Calls Try.prog 13 #[.agg (p.cells A5 c5 A7 c7)] w fun e w' => e = .returned (.tuple #[.slice none 0 0, .int .i64 (checkE p)]) ∧ Below w.heap.size w w' := by
  have MS := Aside0.mk fun (W : World) (hb : Below w.heap.size w W) => measure_walk p A5 A7 c5 c7 hp W (hr.below hb)
  obtain ⟨cls, lab, hop, src, dst, ex, nxt, dat⟩ := p
  show Calls Try.prog 13 #[.agg #[.int .i64 cls, .int .i64 lab, .int .i64 hop, .string src, .string dst, .slice A5 ex.length c5, .int .i64 nxt, .slice A7 dat.length c7]] w _
  have CI := Aside0.mk (checkE_is ⟨cls, lab, hop, src, dst, ex, nxt, dat⟩)
  have HBAD := Aside0.mk hbad
  clear hp hr hbad
  go_enter Try.func13, Try.ntmps13
  go_wp2_with (first | ((with_reducible refine gate_dst (N := 1) rfl ?_); refine box_event ?hg (N := 1) ?hd (cs := #[.int .i64 cls, .int .i64 lab, .int .i64 hop, .string src, .string dst, .slice A5 ex.length c5, .int .i64 nxt, .slice A7 dat.length c7]) (t := 26) ?hr ?_; (case hd => rfl); (case hg => rfl); (case hr => first | (go_simp; done) | (go_simp; rfl)); intro q hq w3 hbox hb3; have BK := Aside0.mk hbox; have HB3 := Aside0.mk hb3; clear hbox hb3 hq; have hq0 : w3.cell? ⟨q, 0, none⟩ = some (.int .i64 cls) := (blk_cell BK.out 0).trans rfl; have hq1 : w3.cell? ⟨q, 1, none⟩ = some (.int .i64 lab) := (blk_cell BK.out 1).trans rfl; have hq2 : w3.cell? ⟨q, 2, none⟩ = some (.int .i64 hop) := (blk_cell BK.out 2).trans rfl; have hq3 : w3.cell? ⟨q, 3, none⟩ = some (.string src) := (blk_cell BK.out 3).trans rfl; have hq4 : w3.cell? ⟨q, 4, none⟩ = some (.string dst) := (blk_cell BK.out 4).trans rfl; have hq5 : w3.cell? ⟨q, 5, none⟩ = some (.slice A5 ex.length c5) := (blk_cell BK.out 5).trans rfl; have hq6 : w3.cell? ⟨q, 6, none⟩ = some (.int .i64 nxt) := (blk_cell BK.out 6).trans rfl; have hq7 : w3.cell? ⟨q, 7, none⟩ = some (.slice A7 dat.length c7) := (blk_cell BK.out 7).trans rfl))
  refine (MS.out _ HB3.out).mono ?_
  rintro e w4 ⟨⟨n, v, rfl, hm⟩, hb⟩
  obtain ⟨_, hv⟩ : checkE ⟨cls, lab, hop, src, dst, ex, nxt, dat⟩ ≠ 0 ∧ ErrV (checkE ⟨cls, lab, hop, src, dst, ex, nxt, dat⟩) v := by
    rcases hm with ⟨h, _⟩ | h
    · exact absurd h HBAD.out
    · exact h
  have NM := Aside0.mk (number_err hv CI.out w4.heap.size (w4.alloc (.cells #[.int .i64 1, .int .i64 2] 27)) (blk_new _ _))
  have HB4 := Aside0.mk (HB3.out.trans (hb.mono HB3.out.size))
  obtain ⟨s, rfl⟩ : ∃ s : ByteArray, v = .iface 61 (.agg #[.string s, .int .i64 (checkE ⟨cls, lab, hop, src, dst, ex, nxt, dat⟩)]) := by
    rcases hv with ⟨h, _⟩ | ⟨_, h⟩
    · exact absurd h HBAD.out
    · exact h
  clear hm hb hv hq0 hq1 hq2 hq3 hq4 hq5 hq6 hq7
  go_wp2_with (fail)
  refine NM.out.mono ?_
  rintro e w5 ⟨rfl, hb⟩
  have HB5 := Aside0.mk ((below_alloc HB4.out _).trans (hb.mono (below_alloc HB4.out _).size))
  clear hb
  go_wp2_with (fail)
  go_ret2
  exact ⟨rfl, HB5.out⟩
/-- A packet of nothing. -/
def zPk : Pk := ⟨0, 0, 0, ByteArray.empty, ByteArray.empty, [], 0, []⟩
/-- What Parse answers: its error and its packet. -/
def parseE (b : List Int) : Int × Pk :=
  if b.length < 40 then (8, zPk)
  else if b.getD 0 0 / 16 ≠ 6 then (4, zPk)
  else if (b.length : Int) < 40 + b.getD 4 0 * 256 + b.getD 5 0 then (8, zPk)
  else if 40 + b.getD 4 0 * 256 + b.getD 5 0 < (b.length : Int) then (4, zPk)
  else match btwE (b.length + 1) 0 (b.getD 6 0) (b.drop 40) with
    | none => (4, zPk)
    | some r => (0, ⟨b.getD 0 0 % 16 * 16 + b.getD 1 0 / 16, b.getD 1 0 % 16 * 65536 + b.getD 2 0 * 256 + b.getD 3 0, b.getD 7 0, strOfNums ((b.take 24).drop 8), strOfNums ((b.take 40).drop 24), r.1, r.2.1, r.2.2⟩)
def ParseP (w0 w : World) (r : Int × Pk) (e : Ending) : Prop :=
  ∃ xv dv, e = .returned (.tuple #[.agg #[.int .i64 r.2.cls, .int .i64 r.2.lab, .int .i64 r.2.hop, .string r.2.src, .string r.2.dst, xv, .int .i64 r.2.nxt, dv], .int .i64 r.1]) ∧
    k43.R 43 w w0.heap.size (fun _ => True) xv r.2.ex ∧ Kd.R (Kd.int .u8) 5 w w0.heap.size (fun _ => True) dv r.2.dat
theorem info26 : (Try.prog.info? 26).map (·.size) = some 8 := by kernel_rfl
theorem pk_stored {w0 w3 : World} {q : Nat} {z0 z1 z2 z3 z4 z5 z6 z7 v0 v1 v2 v3 v4 v5 v6 v7 : Value} (hb : w3.heap[q]? = some (.cells #[z0, z1, z2, z3, z4, z5, z6, z7] 26 (0, 0))) (h : Below w0.heap.size w0 w3) (hq : w0.heap.size ≤ q) :
    ((((((((w3.setCell ⟨q, 0, none⟩ v0).setCell ⟨q, 1, none⟩ v1).setCell ⟨q, 2, none⟩ v2).setCell ⟨q, 3, none⟩ v3).setCell ⟨q, 4, none⟩ v4).setCell ⟨q, 5, none⟩ v5).setCell ⟨q, 6, none⟩ v6).setCell ⟨q, 7, none⟩ v7).heap[q]? = some (.cells #[v0, v1, v2, v3, v4, v5, v6, v7] 26 (0, 0)) ∧
    Below w0.heap.size w0 ((((((((w3.setCell ⟨q, 0, none⟩ v0).setCell ⟨q, 1, none⟩ v1).setCell ⟨q, 2, none⟩ v2).setCell ⟨q, 3, none⟩ v3).setCell ⟨q, 4, none⟩ v4).setCell ⟨q, 5, none⟩ v5).setCell ⟨q, 6, none⟩ v6).setCell ⟨q, 7, none⟩ v7) :=
  by
  have h0 : (w3.setCell ⟨q, 0, none⟩ v0).heap[q]? = some (.cells #[v0, z1, z2, z3, z4, z5, z6, z7] 26 (0, 0)) := (blk_set hb 0 v0).trans rfl
  have h1 : ((w3.setCell ⟨q, 0, none⟩ v0).setCell ⟨q, 1, none⟩ v1).heap[q]? = some (.cells #[v0, v1, z2, z3, z4, z5, z6, z7] 26 (0, 0)) := (blk_set h0 1 v1).trans rfl
  have h2 : (((w3.setCell ⟨q, 0, none⟩ v0).setCell ⟨q, 1, none⟩ v1).setCell ⟨q, 2, none⟩ v2).heap[q]? = some (.cells #[v0, v1, v2, z3, z4, z5, z6, z7] 26 (0, 0)) := (blk_set h1 2 v2).trans rfl
  have h3 : ((((w3.setCell ⟨q, 0, none⟩ v0).setCell ⟨q, 1, none⟩ v1).setCell ⟨q, 2, none⟩ v2).setCell ⟨q, 3, none⟩ v3).heap[q]? = some (.cells #[v0, v1, v2, v3, z4, z5, z6, z7] 26 (0, 0)) := (blk_set h2 3 v3).trans rfl
  have h4 : (((((w3.setCell ⟨q, 0, none⟩ v0).setCell ⟨q, 1, none⟩ v1).setCell ⟨q, 2, none⟩ v2).setCell ⟨q, 3, none⟩ v3).setCell ⟨q, 4, none⟩ v4).heap[q]? = some (.cells #[v0, v1, v2, v3, v4, z5, z6, z7] 26 (0, 0)) := (blk_set h3 4 v4).trans rfl
  have h5 : ((((((w3.setCell ⟨q, 0, none⟩ v0).setCell ⟨q, 1, none⟩ v1).setCell ⟨q, 2, none⟩ v2).setCell ⟨q, 3, none⟩ v3).setCell ⟨q, 4, none⟩ v4).setCell ⟨q, 5, none⟩ v5).heap[q]? = some (.cells #[v0, v1, v2, v3, v4, v5, z6, z7] 26 (0, 0)) := (blk_set h4 5 v5).trans rfl
  have h6 : (((((((w3.setCell ⟨q, 0, none⟩ v0).setCell ⟨q, 1, none⟩ v1).setCell ⟨q, 2, none⟩ v2).setCell ⟨q, 3, none⟩ v3).setCell ⟨q, 4, none⟩ v4).setCell ⟨q, 5, none⟩ v5).setCell ⟨q, 6, none⟩ v6).heap[q]? = some (.cells #[v0, v1, v2, v3, v4, v5, v6, z7] 26 (0, 0)) := (blk_set h5 6 v6).trans rfl
  have h7 : ((((((((w3.setCell ⟨q, 0, none⟩ v0).setCell ⟨q, 1, none⟩ v1).setCell ⟨q, 2, none⟩ v2).setCell ⟨q, 3, none⟩ v3).setCell ⟨q, 4, none⟩ v4).setCell ⟨q, 5, none⟩ v5).setCell ⟨q, 6, none⟩ v6).setCell ⟨q, 7, none⟩ v7).heap[q]? = some (.cells #[v0, v1, v2, v3, v4, v5, v6, v7] 26 (0, 0)) := (blk_set h6 7 v7).trans rfl
  have b0 : Below w0.heap.size w0 (w3.setCell ⟨q, 0, none⟩ v0) := Below.setCell h hq v0
  have b1 : Below w0.heap.size w0 ((w3.setCell ⟨q, 0, none⟩ v0).setCell ⟨q, 1, none⟩ v1) := Below.setCell b0 hq v1
  have b2 : Below w0.heap.size w0 (((w3.setCell ⟨q, 0, none⟩ v0).setCell ⟨q, 1, none⟩ v1).setCell ⟨q, 2, none⟩ v2) := Below.setCell b1 hq v2
  have b3 : Below w0.heap.size w0 ((((w3.setCell ⟨q, 0, none⟩ v0).setCell ⟨q, 1, none⟩ v1).setCell ⟨q, 2, none⟩ v2).setCell ⟨q, 3, none⟩ v3) := Below.setCell b2 hq v3
  have b4 : Below w0.heap.size w0 (((((w3.setCell ⟨q, 0, none⟩ v0).setCell ⟨q, 1, none⟩ v1).setCell ⟨q, 2, none⟩ v2).setCell ⟨q, 3, none⟩ v3).setCell ⟨q, 4, none⟩ v4) := Below.setCell b3 hq v4
  have b5 : Below w0.heap.size w0 ((((((w3.setCell ⟨q, 0, none⟩ v0).setCell ⟨q, 1, none⟩ v1).setCell ⟨q, 2, none⟩ v2).setCell ⟨q, 3, none⟩ v3).setCell ⟨q, 4, none⟩ v4).setCell ⟨q, 5, none⟩ v5) := Below.setCell b4 hq v5
  have b6 : Below w0.heap.size w0 (((((((w3.setCell ⟨q, 0, none⟩ v0).setCell ⟨q, 1, none⟩ v1).setCell ⟨q, 2, none⟩ v2).setCell ⟨q, 3, none⟩ v3).setCell ⟨q, 4, none⟩ v4).setCell ⟨q, 5, none⟩ v5).setCell ⟨q, 6, none⟩ v6) := Below.setCell b5 hq v6
  have b7 : Below w0.heap.size w0 ((((((((w3.setCell ⟨q, 0, none⟩ v0).setCell ⟨q, 1, none⟩ v1).setCell ⟨q, 2, none⟩ v2).setCell ⟨q, 3, none⟩ v3).setCell ⟨q, 4, none⟩ v4).setCell ⟨q, 5, none⟩ v5).setCell ⟨q, 6, none⟩ v6).setCell ⟨q, 7, none⟩ v7) := Below.setCell b6 hq v7
  exact ⟨h7, b7⟩
theorem number_err4 {v : Value} (h : ErrV 4 v) (q : Nat) (w : World) (hq : w.heap[q]? = some (.cells #[.int .i64 4] 27 (0, 0))) :
    Calls Try.prog 21 #[v, .slice (some ⟨q, 0, none⟩) 1 1] w fun e w' => e = .returned (.int .i64 4) ∧ Below w.heap.size w w' := by
  rcases h with ⟨h, _⟩ | ⟨_, s, rfl⟩
  · exact absurd h (by decide)
  · have hw := number_walk (.iface 61 (.agg #[.string s, .int .i64 4])) (fun c' => decide ((4 : Int) = c')) (fun c' W => is_walk s 4 c' W) q [4] (by simp) w hq
    exact hw
theorem base_less {w : World} {b base : Nat} {v : Value} {xs : List Int} (h : Kd.R (Kd.int .u8) 5 w b (fun _ => True) v xs) (hle : base ≤ b) : Kd.R (Kd.int .u8) 5 w base (fun _ => True) v xs :=
  Kd.R_of_own (enc := Value.int .u8) (h1 := fun _ => rfl) (own_less (Kd.own_of_R h) hle) (fun _ _ => trivial)
theorem base_less43 {w : World} {b base : Nat} {v : Value} {xs : List S43} (h : k43.R 43 w b (fun _ => True) v xs) (hle : base ≤ b) : k43.R 43 w base (fun _ => True) v xs := by
  obtain ⟨h1, inner, h2, h3⟩ := h
  exact ⟨h1, inner, own_less h2 hle, h3⟩
theorem btwE_rest : ∀ (f i : Nat) (nx : Int) (b : List Int) (r : List S43 × Int × List Int), btwE f i nx b = some r → ∃ k, r.2.2 = b.drop k
  | 0, _, _, _, _, h => by simp [btwE] at h
  | f + 1, i, nx, b, r, h => by
    rw [btwE] at h
    split at h
    · injection h with h
      subst h
      exact ⟨0, rfl⟩
    · split at h
      · cases h
      · split at h
        · cases h
        · rw [Option.map_eq_some_iff] at h
          obtain ⟨r', h, rfl⟩ := h
          obtain ⟨k, hk⟩ := btwE_rest f _ _ _ r' h
          exact ⟨hsz nx b + k, by simp only; rw [hk, List.drop_drop]⟩
theorem parse_nums {y0 y1 y2 y3 : Int} (h0 : 0 ≤ y0 ∧ y0 ≤ 255) (h1 : 0 ≤ y1 ∧ y1 ≤ 255) (h2 : 0 ≤ y2 ∧ y2 ≤ 255) (h3 : 0 ≤ y3 ∧ y3 ≤ 255) :
    bits .and .u8 y0 15 = y0 % 16 ∧ IntKind.i64.wrap (y0 % 16) = y0 % 16 ∧ IntKind.i64.wrap (y0 % 16 * 16) = y0 % 16 * 16 ∧ IntKind.i64.wrap (y1 / 16) = y1 / 16 ∧ bits .or .i64 (y0 % 16 * 16) (y1 / 16) = y0 % 16 * 16 + y1 / 16 ∧
    bits .and .u8 y1 15 = y1 % 16 ∧ IntKind.i64.wrap (y1 % 16) = y1 % 16 ∧ IntKind.i64.wrap (y1 % 16 * 65536) = y1 % 16 * 65536 ∧ IntKind.i64.wrap (y2 * 256) = y2 * 256 ∧ bits .or .i64 (y1 % 16 * 65536) (y2 * 256) = y1 % 16 * 65536 + y2 * 256 ∧ bits .or .i64 (y1 % 16 * 65536 + y2 * 256) y3 = y1 % 16 * 65536 + y2 * 256 + y3 := by
  have hw : ∀ n : Int, 0 ≤ n → n < 2 ^ 63 → IntKind.i64.wrap n = n := fun n a b => by rw [IntKind.wrap_i64]; omega
  refine ⟨?_, ?_, ?_, ?_, ?_, ?_, ?_, ?_, ?_, ?_, ?_⟩
  · exact bits_mask .u8 8 (by decide) wraps_u8 4 (by decide) y0 (by omega) (by omega)
  · exact IntWalk.i64_in _ (by omega)
  · exact IntWalk.i64_in _ (by omega)
  · exact IntWalk.i64_in _ (by omega)
  · exact bits_join .i64 63 (by decide) hw 4 _ _ (by omega) (by omega) (by omega) (by omega) (by omega) (by omega)
  · exact bits_mask .u8 8 (by decide) wraps_u8 4 (by decide) y1 (by omega) (by omega)
  · exact IntWalk.i64_in _ (by omega)
  · exact IntWalk.i64_in _ (by omega)
  · exact IntWalk.i64_in _ (by omega)
  · exact bits_join .i64 63 (by decide) hw 16 _ _ (by omega) (by omega) (by omega) (by omega) (by omega) (by omega)
  · exact bits_join .i64 63 (by decide) hw 8 _ _ (by omega) (by omega) (by omega) (by omega) (by omega) (by omega)
theorem pk_kept {α : Type} {d : Kd α} {e : TypeId} {w3 : World} {q base : Nat} {ok : Nat → Prop} {v : Value} {xs : List α} {z0 z1 z2 z3 z4 z5 z6 z7 v0 v1 v2 v3 v4 v5 v6 v7 : Value} (hb : w3.heap[q]? = some (.cells #[z0, z1, z2, z3, z4, z5, z6, z7] 26 (0, 0))) (h : d.R e w3 base ok v xs) (ht : ∀ k, k ∈ e :: d.E → k ≠ 26) :
    d.R e ((((((((w3.setCell ⟨q, 0, none⟩ v0).setCell ⟨q, 1, none⟩ v1).setCell ⟨q, 2, none⟩ v2).setCell ⟨q, 3, none⟩ v3).setCell ⟨q, 4, none⟩ v4).setCell ⟨q, 5, none⟩ v5).setCell ⟨q, 6, none⟩ v6).setCell ⟨q, 7, none⟩ v7) base ok v xs := by
  have h0 : (w3.setCell ⟨q, 0, none⟩ v0).heap[q]? = some (.cells #[v0, z1, z2, z3, z4, z5, z6, z7] 26 (0, 0)) := (blk_set hb 0 v0).trans rfl
  have r0 : d.R e (w3.setCell ⟨q, 0, none⟩ v0) base ok v xs := Kd.R_set h hb ht 0 v0
  have h1 : ((w3.setCell ⟨q, 0, none⟩ v0).setCell ⟨q, 1, none⟩ v1).heap[q]? = some (.cells #[v0, v1, z2, z3, z4, z5, z6, z7] 26 (0, 0)) := (blk_set h0 1 v1).trans rfl
  have r1 : d.R e ((w3.setCell ⟨q, 0, none⟩ v0).setCell ⟨q, 1, none⟩ v1) base ok v xs := Kd.R_set r0 h0 ht 1 v1
  have h2 : (((w3.setCell ⟨q, 0, none⟩ v0).setCell ⟨q, 1, none⟩ v1).setCell ⟨q, 2, none⟩ v2).heap[q]? = some (.cells #[v0, v1, v2, z3, z4, z5, z6, z7] 26 (0, 0)) := (blk_set h1 2 v2).trans rfl
  have r2 : d.R e (((w3.setCell ⟨q, 0, none⟩ v0).setCell ⟨q, 1, none⟩ v1).setCell ⟨q, 2, none⟩ v2) base ok v xs := Kd.R_set r1 h1 ht 2 v2
  have h3 : ((((w3.setCell ⟨q, 0, none⟩ v0).setCell ⟨q, 1, none⟩ v1).setCell ⟨q, 2, none⟩ v2).setCell ⟨q, 3, none⟩ v3).heap[q]? = some (.cells #[v0, v1, v2, v3, z4, z5, z6, z7] 26 (0, 0)) := (blk_set h2 3 v3).trans rfl
  have r3 : d.R e ((((w3.setCell ⟨q, 0, none⟩ v0).setCell ⟨q, 1, none⟩ v1).setCell ⟨q, 2, none⟩ v2).setCell ⟨q, 3, none⟩ v3) base ok v xs := Kd.R_set r2 h2 ht 3 v3
  have h4 : (((((w3.setCell ⟨q, 0, none⟩ v0).setCell ⟨q, 1, none⟩ v1).setCell ⟨q, 2, none⟩ v2).setCell ⟨q, 3, none⟩ v3).setCell ⟨q, 4, none⟩ v4).heap[q]? = some (.cells #[v0, v1, v2, v3, v4, z5, z6, z7] 26 (0, 0)) := (blk_set h3 4 v4).trans rfl
  have r4 : d.R e (((((w3.setCell ⟨q, 0, none⟩ v0).setCell ⟨q, 1, none⟩ v1).setCell ⟨q, 2, none⟩ v2).setCell ⟨q, 3, none⟩ v3).setCell ⟨q, 4, none⟩ v4) base ok v xs := Kd.R_set r3 h3 ht 4 v4
  have h5 : ((((((w3.setCell ⟨q, 0, none⟩ v0).setCell ⟨q, 1, none⟩ v1).setCell ⟨q, 2, none⟩ v2).setCell ⟨q, 3, none⟩ v3).setCell ⟨q, 4, none⟩ v4).setCell ⟨q, 5, none⟩ v5).heap[q]? = some (.cells #[v0, v1, v2, v3, v4, v5, z6, z7] 26 (0, 0)) := (blk_set h4 5 v5).trans rfl
  have r5 : d.R e ((((((w3.setCell ⟨q, 0, none⟩ v0).setCell ⟨q, 1, none⟩ v1).setCell ⟨q, 2, none⟩ v2).setCell ⟨q, 3, none⟩ v3).setCell ⟨q, 4, none⟩ v4).setCell ⟨q, 5, none⟩ v5) base ok v xs := Kd.R_set r4 h4 ht 5 v5
  have h6 : (((((((w3.setCell ⟨q, 0, none⟩ v0).setCell ⟨q, 1, none⟩ v1).setCell ⟨q, 2, none⟩ v2).setCell ⟨q, 3, none⟩ v3).setCell ⟨q, 4, none⟩ v4).setCell ⟨q, 5, none⟩ v5).setCell ⟨q, 6, none⟩ v6).heap[q]? = some (.cells #[v0, v1, v2, v3, v4, v5, v6, z7] 26 (0, 0)) := (blk_set h5 6 v6).trans rfl
  have r6 : d.R e (((((((w3.setCell ⟨q, 0, none⟩ v0).setCell ⟨q, 1, none⟩ v1).setCell ⟨q, 2, none⟩ v2).setCell ⟨q, 3, none⟩ v3).setCell ⟨q, 4, none⟩ v4).setCell ⟨q, 5, none⟩ v5).setCell ⟨q, 6, none⟩ v6) base ok v xs := Kd.R_set r5 h5 ht 6 v6
  have h7 : ((((((((w3.setCell ⟨q, 0, none⟩ v0).setCell ⟨q, 1, none⟩ v1).setCell ⟨q, 2, none⟩ v2).setCell ⟨q, 3, none⟩ v3).setCell ⟨q, 4, none⟩ v4).setCell ⟨q, 5, none⟩ v5).setCell ⟨q, 6, none⟩ v6).setCell ⟨q, 7, none⟩ v7).heap[q]? = some (.cells #[v0, v1, v2, v3, v4, v5, v6, v7] 26 (0, 0)) := (blk_set h6 7 v7).trans rfl
  have r7 : d.R e ((((((((w3.setCell ⟨q, 0, none⟩ v0).setCell ⟨q, 1, none⟩ v1).setCell ⟨q, 2, none⟩ v2).setCell ⟨q, 3, none⟩ v3).setCell ⟨q, 4, none⟩ v4).setCell ⟨q, 5, none⟩ v5).setCell ⟨q, 6, none⟩ v6).setCell ⟨q, 7, none⟩ v7) base ok v xs := Kd.R_set r6 h6 ht 7 v7
  exact r7
set_option maxHeartbeats 8000000 in
set_option maxRecDepth 100000 in
theorem parse_walk (A0 : Option Addr) (c0 : Nat) (b : List Int) (w : World) (hr : ReadsInt w .u8 A0 b.length b) (hc : b.length ≤ c0) (hl : b.length ≤ 100000) (hby : ∀ x ∈ b, 0 ≤ x ∧ x ≤ 255) :
    Calls Try.prog 8 #[.slice A0 b.length c0] w fun e w' => ParseP w w' (parseE b) e ∧ Below w.heap.size w w' := by
  have HR := Aside0.mk hr
  have HBY := Aside0.mk hby
  obtain ⟨n, hn⟩ : ∃ n, b.length = n := ⟨_, rfl⟩
  have HN := Aside0.mk hn
  rw [hn] at hc hl ⊢
  clear hr hby hn
  by_cases h40 : n < 40
  · have d40 : decide ((n : Int) < 40) = true := decide_eq_true (by omega)
    have PE := Aside0.mk (show parseE b = (8, zPk) from by unfold parseE; rw [if_pos (by rw [HN.out]; exact h40)])
    clear h40 HR HBY
    go_enter Try.func8, Try.ntmps8
    go_wp2_with (first | ((with_reducible refine gate_dst (N := 2) rfl ?_); refine box_event ?hg (N := 2) ?hd (cs := #[.int .i64 0, .int .i64 0, .int .i64 0, .string ByteArray.empty, .string ByteArray.empty, .slice none 0 0, .int .i64 0, .slice none 0 0]) (t := 26) ?hr ?_; (case hd => rfl); (case hg => rfl); (case hr => first | (go_simp; done) | (go_simp; rfl)); intro q hq w3 hbox hb3; have BK := Aside0.mk hbox; have HB3 := Aside0.mk hb3; have HQ := Aside0.mk hq; clear hbox hb3 hq) | ((with_reducible refine gate_store (t := 26) (p := 2) rfl ?_); have hz0 := (blk_cell BK.out 0).trans rfl; have hf0 := blk_frozen BK.out 0; have hz1 := (blk_cell BK.out 1).trans rfl; have hf1 := blk_frozen BK.out 1; have hz2 := (blk_cell BK.out 2).trans rfl; have hf2 := blk_frozen BK.out 2; have hz3 := (blk_cell BK.out 3).trans rfl; have hf3 := blk_frozen BK.out 3; have hz4 := (blk_cell BK.out 4).trans rfl; have hf4 := blk_frozen BK.out 4; have hz5 := (blk_cell BK.out 5).trans rfl; have hf5 := blk_frozen BK.out 5; have hz6 := (blk_cell BK.out 6).trans rfl; have hf6 := blk_frozen BK.out 6; have hz7 := (blk_cell BK.out 7).trans rfl; have hf7 := blk_frozen BK.out 7; refine store_event (t := 26) (p := 2) (v := ?vo) (w1 := ((((((((w3.setCell ⟨q, 0, none⟩ (.int .i64 0)).setCell ⟨q, 1, none⟩ (.int .i64 0)).setCell ⟨q, 2, none⟩ (.int .i64 0)).setCell ⟨q, 3, none⟩ (.string ByteArray.empty)).setCell ⟨q, 4, none⟩ (.string ByteArray.empty)).setCell ⟨q, 5, none⟩ (.slice none 0 0)).setCell ⟨q, 6, none⟩ (.int .i64 0)).setCell ⟨q, 7, none⟩ (.slice none 0 0))) ?hg ?ho ?hn ?hr ?_; (case ho => rfl); (case hg => rfl); (case hn => rfl); (case hr => first | (go_simp; done) | (go_simp; rfl)); intro w4 hw; have HX4 := Aside0.mk (show w4.heap[q]? = some (.cells #[.int .i64 0, .int .i64 0, .int .i64 0, .string ByteArray.empty, .string ByteArray.empty, .slice none 0 0, .int .i64 0, .slice none 0 0] 26 (0, 0)) ∧ Below w.heap.size w w4 from by rw [hw]; exact pk_stored BK.out HB3.out (by rw [HQ.out]; exact Nat.le_refl _)); clear hw hz0 hz1 hz2 hz3 hz4 hz5 hz6 hz7 hf0 hf1 hf2 hf3 hf4 hf5 hf6 hf7))
    (try simp only [Exit.inBlock, Exit.then])
    refine bodyPost_ret (results_ct rfl _ _ q 26 _ (0, 0) _ rfl HX4.out.1 Try.underlying26 rfl info26) rfl ?_
    rw [PE.out]
    exact ⟨⟨_, _, rfl, Kd.R_nil _ _ _ _ _, Kd.R_nil _ _ _ _ _⟩, HX4.out.2⟩
  · have d40 : decide ((n : Int) < 40) = false := decide_eq_false (by omega)
    have hn40 : 40 ≤ b.length := by have := HN.out; omega
    obtain ⟨ad, hA, hcell⟩ := HR.out.2.2 (by omega)
    subst hA
    have hmem : ∀ i : Nat, i < 8 → 0 ≤ b.getD i 0 ∧ b.getD i 0 ≤ 255 := fun i hi => HBY.out _ (by rw [List.getD_eq_getElem?_getD, List.getElem?_eq_getElem (by omega)]; exact List.getElem_mem (by omega))
    have hPE : parseE b = (if b.getD 0 0 / 16 ≠ 6 then (4, zPk) else if (n : Int) < 40 + b.getD 4 0 * 256 + b.getD 5 0 then (8, zPk) else if 40 + b.getD 4 0 * 256 + b.getD 5 0 < (n : Int) then (4, zPk) else match btwE (n + 1) 0 (b.getD 6 0) (b.drop 40) with
        | none => (4, zPk)
        | some r => (0, ⟨b.getD 0 0 % 16 * 16 + b.getD 1 0 / 16, b.getD 1 0 % 16 * 65536 + b.getD 2 0 * 256 + b.getD 3 0, b.getD 7 0, strOfNums ((b.take 24).drop 8), strOfNums ((b.take 40).drop 24), r.1, r.2.1, r.2.2⟩) : Int × Pk) := by
      unfold parseE
      rw [if_neg (by omega), HN.out]
    have hc0 := hcell 0 (by omega)
    have hy0 := hmem 0 (by omega)
    have hc1 := hcell 1 (by omega)
    have hy1 := hmem 1 (by omega)
    have hc2 := hcell 2 (by omega)
    have hy2 := hmem 2 (by omega)
    have hc3 := hcell 3 (by omega)
    have hy3 := hmem 3 (by omega)
    have hc4 := hcell 4 (by omega)
    have hy4 := hmem 4 (by omega)
    have hc5 := hcell 5 (by omega)
    have hy5 := hmem 5 (by omega)
    have hc6 := hcell 6 (by omega)
    have hy6 := hmem 6 (by omega)
    have hc7 := hcell 7 (by omega)
    have hy7 := hmem 7 (by omega)
    obtain ⟨y0, e0⟩ : ∃ y, b.getD 0 0 = y := ⟨_, rfl⟩
    rw [e0] at hc0 hy0
    rw [e0] at hPE
    obtain ⟨y1, e1⟩ : ∃ y, b.getD 1 0 = y := ⟨_, rfl⟩
    rw [e1] at hc1 hy1
    rw [e1] at hPE
    obtain ⟨y2, e2⟩ : ∃ y, b.getD 2 0 = y := ⟨_, rfl⟩
    rw [e2] at hc2 hy2
    rw [e2] at hPE
    obtain ⟨y3, e3⟩ : ∃ y, b.getD 3 0 = y := ⟨_, rfl⟩
    rw [e3] at hc3 hy3
    rw [e3] at hPE
    obtain ⟨y4, e4⟩ : ∃ y, b.getD 4 0 = y := ⟨_, rfl⟩
    rw [e4] at hc4 hy4
    rw [e4] at hPE
    obtain ⟨y5, e5⟩ : ∃ y, b.getD 5 0 = y := ⟨_, rfl⟩
    rw [e5] at hc5 hy5
    rw [e5] at hPE
    obtain ⟨y6, e6⟩ : ∃ y, b.getD 6 0 = y := ⟨_, rfl⟩
    rw [e6] at hc6 hy6
    rw [e6] at hPE
    obtain ⟨y7, e7⟩ : ∃ y, b.getD 7 0 = y := ⟨_, rfl⟩
    rw [e7] at hc7 hy7
    rw [e7] at hPE
    have HC := Aside0.mk (show ∀ W, Below w.heap.size w W → W.cell? ad = some (.int .u8 y0) ∧ W.cell? { block := ad.block, off := ad.off + 1 } = some (.int .u8 y1) ∧ W.cell? { block := ad.block, off := ad.off + 2 } = some (.int .u8 y2) ∧ W.cell? { block := ad.block, off := ad.off + 3 } = some (.int .u8 y3) ∧ W.cell? { block := ad.block, off := ad.off + 4 } = some (.int .u8 y4) ∧ W.cell? { block := ad.block, off := ad.off + 5 } = some (.int .u8 y5) ∧ W.cell? { block := ad.block, off := ad.off + 6 } = some (.int .u8 y6) ∧ W.cell? { block := ad.block, off := ad.off + 7 } = some (.int .u8 y7) from fun W hW => ⟨pw_cell_below hW hc0, pw_cell_below hW hc1, pw_cell_below hW hc2, pw_cell_below hW hc3, pw_cell_below hW hc4, pw_cell_below hW hc5, pw_cell_below hW hc6, pw_cell_below hW hc7⟩)
    have d0 : decide ((0 : Int) < (n : Int)) = true := decide_eq_true (by omega)
    have p0 : (0 : Int) < (n : Int) := by omega
    have d1 : decide ((1 : Int) < (n : Int)) = true := decide_eq_true (by omega)
    have p1 : (1 : Int) < (n : Int) := by omega
    have d2 : decide ((2 : Int) < (n : Int)) = true := decide_eq_true (by omega)
    have p2 : (2 : Int) < (n : Int) := by omega
    have d3 : decide ((3 : Int) < (n : Int)) = true := decide_eq_true (by omega)
    have p3 : (3 : Int) < (n : Int) := by omega
    have d4 : decide ((4 : Int) < (n : Int)) = true := decide_eq_true (by omega)
    have p4 : (4 : Int) < (n : Int) := by omega
    have d5 : decide ((5 : Int) < (n : Int)) = true := decide_eq_true (by omega)
    have p5 : (5 : Int) < (n : Int) := by omega
    have d6 : decide ((6 : Int) < (n : Int)) = true := decide_eq_true (by omega)
    have p6 : (6 : Int) < (n : Int) := by omega
    have d7 : decide ((7 : Int) < (n : Int)) = true := decide_eq_true (by omega)
    have p7 : (7 : Int) < (n : Int) := by omega
    have kw0 : IntKind.i64.wrap y0 = y0 := IntWalk.i64_in _ (by omega)
    have kw1 : IntKind.i64.wrap y1 = y1 := IntWalk.i64_in _ (by omega)
    have kw2 : IntKind.i64.wrap y2 = y2 := IntWalk.i64_in _ (by omega)
    have kw3 : IntKind.i64.wrap y3 = y3 := IntWalk.i64_in _ (by omega)
    have kw4 : IntKind.i64.wrap y4 = y4 := IntWalk.i64_in _ (by omega)
    have kw5 : IntKind.i64.wrap y5 = y5 := IntWalk.i64_in _ (by omega)
    have kw6 : IntKind.i64.wrap y6 = y6 := IntWalk.i64_in _ (by omega)
    have kw7 : IntKind.i64.wrap y7 = y7 := IntWalk.i64_in _ (by omega)
    have ks4 : IntKind.i64.wrap (y4 * 256) = y4 * 256 := IntWalk.i64_in _ (by omega)
    have k40 : IntKind.i64.wrap (40 + y4 * 256) = 40 + y4 * 256 := IntWalk.i64_in _ (by omega)
    have k45 : IntKind.i64.wrap (40 + y4 * 256 + y5) = 40 + y4 * 256 + y5 := IntWalk.i64_in _ (by omega)
    have HPE := Aside0.mk hPE
    clear hc0 e0 hc1 e1 hc2 e2 hc3 e3 hc4 e4 hc5 e5 hc6 e6 hc7 e7 hcell hmem hPE hn40
    have n00 : 0 < n := by omega
    have H40 := Aside0.mk h40
    have HYB := Aside0.mk (And.intro hy0 (And.intro hy1 (And.intro hy2 hy3)))
    clear h40
    by_cases h6 : y0 / 16 = 6
    · have q6 : (y0 / 16 != 6) = false := bne_eq_false_iff_eq.mpr h6
      by_cases hlt : (n : Int) < 40 + y4 * 256 + y5
      · have qlt : decide ((n : Int) < 40 + y4 * 256 + y5) = true := decide_eq_true hlt
        have PE := Aside0.mk (show parseE b = (8, zPk) from by rw [HPE.out, if_neg (by simpa using h6), if_pos hlt])
        clear h6 hlt HPE HBY
        go_enter Try.func8, Try.ntmps8
        go_wp2_with (first | ((with_reducible refine gate_dst (N := 2) rfl ?_); refine box_event ?hg (N := 2) ?hd (cs := #[.int .i64 0, .int .i64 0, .int .i64 0, .string ByteArray.empty, .string ByteArray.empty, .slice none 0 0, .int .i64 0, .slice none 0 0]) (t := 26) ?hr ?_; (case hd => rfl); (case hg => rfl); (case hr => first | (go_simp; done) | (go_simp; rfl)); intro q hq w3 hbox hb3; have BK := Aside0.mk hbox; have HB3 := Aside0.mk hb3; have HQ := Aside0.mk hq; clear hbox hb3 hq))
        refine start_ (n := 12) (S := fun W => Below w.heap.size w W) (ds := []) #[false, false, false, false, false, false, false, false, false, false, false, false] (by kernel_rfl) rfl rfl (below_drew HB3.out) (fun hHeld => ?_)
        refine pure_ (i := 0) (N := some 13) (v := ?_) (a' := ?_) #[true, false, false, false, false, false, false, false, false, false, false, false] rfl rfl (by kernel_rfl) (fun _ _ _ h => h) (Or.inl ⟨by rfl, ?_⟩) ?_ ?_
        rotate_left
        · intro w'
          go_simp
          with_reducible rfl
        rotate_left
        · simp only [Act.put, List.setIfInBounds_toArray, List.set_cons_zero, List.set_cons_succ]
          rfl
        refine pure_ (i := 1) (N := some 14) (v := ?_) (a' := ?_) #[true, true, false, false, false, false, false, false, false, false, false, false] rfl rfl (by kernel_rfl) (fun _ _ _ h => h) (Or.inl ⟨by rfl, ?_⟩) ?_ ?_
        rotate_left
        · intro w'
          go_simp
          with_reducible rfl
        rotate_left
        · simp only [Act.put, List.setIfInBounds_toArray, List.set_cons_zero, List.set_cons_succ]
          rfl
        refine take_ (i := 2) (N := some 15) (v := ?_) (a' := ?_) #[true, true, true, false, false, false, false, false, false, false, false, false] rfl rfl (by kernel_rfl) (fun _ _ _ h => h) (Or.inl ⟨by rfl, ?_⟩) hHeld ?_ ?_
        rotate_left
        · intro w' s0
          obtain ⟨z0, z1, z2, z3, z4, z5, z6, z7⟩ := HC.out w' s0
          go_simp
          with_reducible rfl
        rotate_left
        · simp only [Act.put, List.setIfInBounds_toArray, List.set_cons_zero, List.set_cons_succ]
          rfl
        refine pure_ (i := 3) (N := some 16) (v := ?_) (a' := ?_) #[true, true, true, true, false, false, false, false, false, false, false, false] rfl rfl (by kernel_rfl) (fun _ _ _ h => h) (Or.inl ⟨by rfl, ?_⟩) ?_ ?_
        rotate_left
        · intro w'
          go_simp
          with_reducible rfl
        rotate_left
        · simp only [Act.put, List.setIfInBounds_toArray, List.set_cons_zero, List.set_cons_succ]
          rfl
        refine pure_ (i := 4) (N := some 17) (v := ?_) (a' := ?_) #[true, true, true, true, true, false, false, false, false, false, false, false] rfl rfl (by kernel_rfl) (fun _ _ _ h => h) (Or.inl ⟨by rfl, ?_⟩) ?_ ?_
        rotate_left
        · intro w'
          go_simp
          with_reducible rfl
        rotate_left
        · simp only [Act.put, List.setIfInBounds_toArray, List.set_cons_zero, List.set_cons_succ]
          rfl
        refine pure_ (i := 5) (N := some 18) (v := ?_) (a' := ?_) #[true, true, true, true, true, true, false, false, false, false, false, false] rfl rfl (by kernel_rfl) (fun _ _ _ h => h) (Or.inl ⟨by rfl, ?_⟩) ?_ ?_
        rotate_left
        · intro w'
          go_simp
          with_reducible rfl
        rotate_left
        · simp only [Act.put, List.setIfInBounds_toArray, List.set_cons_zero, List.set_cons_succ]
          rfl
        refine pure_ (i := 6) (N := some 19) (v := ?_) (a' := ?_) #[true, true, true, true, true, true, true, false, false, false, false, false] rfl rfl (by kernel_rfl) (fun _ _ _ h => h) (Or.inl ⟨by rfl, ?_⟩) ?_ ?_
        rotate_left
        · intro w'
          go_simp
          with_reducible rfl
        rotate_left
        · simp only [Act.put, List.setIfInBounds_toArray, List.set_cons_zero, List.set_cons_succ]
          rfl
        refine pure_ (i := 7) (N := some 20) (v := ?_) (a' := ?_) #[true, true, true, true, true, true, true, true, false, false, false, false] rfl rfl (by kernel_rfl) (fun _ _ _ h => h) (Or.inl ⟨by rfl, ?_⟩) ?_ ?_
        rotate_left
        · intro w'
          go_simp
          with_reducible rfl
        rotate_left
        · simp only [Act.put, List.setIfInBounds_toArray, List.set_cons_zero, List.set_cons_succ]
          rfl
        refine take_ (i := 8) (N := some 21) (v := ?_) (a' := ?_) #[true, true, true, true, true, true, true, true, true, false, false, false] rfl rfl (by kernel_rfl) (fun _ _ _ h => h) (Or.inl ⟨by rfl, ?_⟩) hHeld ?_ ?_
        rotate_left
        · intro w' s0
          obtain ⟨z0, z1, z2, z3, z4, z5, z6, z7⟩ := HC.out w' s0
          go_simp
          with_reducible rfl
        rotate_left
        · simp only [Act.put, List.setIfInBounds_toArray, List.set_cons_zero, List.set_cons_succ]
          rfl
        refine pure_ (i := 9) (N := some 22) (v := ?_) (a' := ?_) #[true, true, true, true, true, true, true, true, true, true, false, false] rfl rfl (by kernel_rfl) (fun _ _ _ h => h) (Or.inl ⟨by rfl, ?_⟩) ?_ ?_
        rotate_left
        · intro w'
          go_simp
          with_reducible rfl
        rotate_left
        · simp only [Act.put, List.setIfInBounds_toArray, List.set_cons_zero, List.set_cons_succ]
          rfl
        refine pure_ (i := 10) (N := some 23) (v := ?_) (a' := ?_) #[true, true, true, true, true, true, true, true, true, true, true, false] rfl rfl (by kernel_rfl) (fun _ _ _ h => h) (Or.inl ⟨by rfl, ?_⟩) ?_ ?_
        rotate_left
        · intro w'
          go_simp
          with_reducible rfl
        rotate_left
        · simp only [Act.put, List.setIfInBounds_toArray, List.set_cons_zero, List.set_cons_succ]
          rfl
        refine pure_ (i := 11) (N := some 4) (v := ?_) (a' := ?_) #[true, true, true, true, true, true, true, true, true, true, true, true] rfl rfl (by kernel_rfl) (fun _ _ _ h => h) (Or.inl ⟨by rfl, ?_⟩) ?_ ?_
        rotate_left
        · intro w'
          go_simp
          with_reducible rfl
        rotate_left
        · simp only [Act.put, List.setIfInBounds_toArray, List.set_cons_zero, List.set_cons_succ]
          rfl
        refine done_ (by kernel_rfl) ?_
        have BKD := Aside0.mk (show w3.drew.heap[q]? = some (.cells #[.int .i64 0, .int .i64 0, .int .i64 0, .string ByteArray.empty, .string ByteArray.empty, .slice none 0 0, .int .i64 0, .slice none 0 0] 26 (0, 0)) from BK.out)
        have HBD := Aside0.mk (below_drew HB3.out)
        clear hHeld
        generalize w3.drew = wd at BKD HBD ⊢
        obtain ⟨z0, z1, z2, z3, z4, z5, z6, z7⟩ := HC.out _ HBD.out
        clear BK HB3
        go_wp2_with (first | ((with_reducible refine gate_store (t := 26) (p := 2) rfl ?_); have hz0 := (blk_cell BKD.out 0).trans rfl; have hf0 := blk_frozen BKD.out 0; have hz1 := (blk_cell BKD.out 1).trans rfl; have hf1 := blk_frozen BKD.out 1; have hz2 := (blk_cell BKD.out 2).trans rfl; have hf2 := blk_frozen BKD.out 2; have hz3 := (blk_cell BKD.out 3).trans rfl; have hf3 := blk_frozen BKD.out 3; have hz4 := (blk_cell BKD.out 4).trans rfl; have hf4 := blk_frozen BKD.out 4; have hz5 := (blk_cell BKD.out 5).trans rfl; have hf5 := blk_frozen BKD.out 5; have hz6 := (blk_cell BKD.out 6).trans rfl; have hf6 := blk_frozen BKD.out 6; have hz7 := (blk_cell BKD.out 7).trans rfl; have hf7 := blk_frozen BKD.out 7; refine store_event (t := 26) (p := 2) (v := ?vo11) (w1 := ((((((((wd.setCell ⟨q, 0, none⟩ (.int .i64 0)).setCell ⟨q, 1, none⟩ (.int .i64 0)).setCell ⟨q, 2, none⟩ (.int .i64 0)).setCell ⟨q, 3, none⟩ (.string ByteArray.empty)).setCell ⟨q, 4, none⟩ (.string ByteArray.empty)).setCell ⟨q, 5, none⟩ (.slice none 0 0)).setCell ⟨q, 6, none⟩ (.int .i64 0)).setCell ⟨q, 7, none⟩ (.slice none 0 0))) ?hg ?ho ?hn ?hr ?_; (case ho => rfl); (case hg => rfl); (case hn => rfl); (case hr => first | (go_simp; done) | (go_simp; rfl)); intro w4 hw; have HX4 := Aside0.mk (show w4.heap[q]? = some (.cells #[.int .i64 0, .int .i64 0, .int .i64 0, .string ByteArray.empty, .string ByteArray.empty, .slice none 0 0, .int .i64 0, .slice none 0 0] 26 (0, 0)) ∧ Below w.heap.size w w4 from by rw [hw]; exact pk_stored BKD.out HBD.out (by rw [HQ.out]; exact Nat.le_refl _)); clear hw hz0 hz1 hz2 hz3 hz4 hz5 hz6 hz7 hf0 hf1 hf2 hf3 hf4 hf5 hf6 hf7))
        (try simp only [Exit.inBlock, Exit.then])
        refine bodyPost_ret (results_ct rfl _ _ q 26 _ (0, 0) _ rfl HX4.out.1 Try.underlying26 rfl info26) rfl ?_
        rw [PE.out]
        exact ⟨⟨_, _, rfl, Kd.R_nil _ _ _ _ _, Kd.R_nil _ _ _ _ _⟩, HX4.out.2⟩
      · have qlt : decide ((n : Int) < 40 + y4 * 256 + y5) = false := decide_eq_false hlt
        by_cases hgt : 40 + y4 * 256 + y5 < (n : Int)
        · have qgt : decide (40 + y4 * 256 + y5 < (n : Int)) = true := decide_eq_true hgt
          have PE := Aside0.mk (show parseE b = (4, zPk) from by rw [HPE.out, if_neg (by simpa using h6), if_neg hlt, if_pos hgt])
          clear h6 hlt hgt HPE HBY
          go_enter Try.func8, Try.ntmps8
          go_wp2_with (first | ((with_reducible refine gate_dst (N := 2) rfl ?_); refine box_event ?hg (N := 2) ?hd (cs := #[.int .i64 0, .int .i64 0, .int .i64 0, .string ByteArray.empty, .string ByteArray.empty, .slice none 0 0, .int .i64 0, .slice none 0 0]) (t := 26) ?hr ?_; (case hd => rfl); (case hg => rfl); (case hr => first | (go_simp; done) | (go_simp; rfl)); intro q hq w3 hbox hb3; have BK := Aside0.mk hbox; have HB3 := Aside0.mk hb3; have HQ := Aside0.mk hq; clear hbox hb3 hq))
          refine start_ (n := 12) (S := fun W => Below w.heap.size w W) (ds := []) #[false, false, false, false, false, false, false, false, false, false, false, false] (by kernel_rfl) rfl rfl (below_drew HB3.out) (fun hHeld => ?_)
          refine pure_ (i := 0) (N := some 13) (v := ?_) (a' := ?_) #[true, false, false, false, false, false, false, false, false, false, false, false] rfl rfl (by kernel_rfl) (fun _ _ _ h => h) (Or.inl ⟨by rfl, ?_⟩) ?_ ?_
          rotate_left
          · intro w'
            go_simp
            with_reducible rfl
          rotate_left
          · simp only [Act.put, List.setIfInBounds_toArray, List.set_cons_zero, List.set_cons_succ]
            rfl
          refine pure_ (i := 1) (N := some 14) (v := ?_) (a' := ?_) #[true, true, false, false, false, false, false, false, false, false, false, false] rfl rfl (by kernel_rfl) (fun _ _ _ h => h) (Or.inl ⟨by rfl, ?_⟩) ?_ ?_
          rotate_left
          · intro w'
            go_simp
            with_reducible rfl
          rotate_left
          · simp only [Act.put, List.setIfInBounds_toArray, List.set_cons_zero, List.set_cons_succ]
            rfl
          refine take_ (i := 2) (N := some 15) (v := ?_) (a' := ?_) #[true, true, true, false, false, false, false, false, false, false, false, false] rfl rfl (by kernel_rfl) (fun _ _ _ h => h) (Or.inl ⟨by rfl, ?_⟩) hHeld ?_ ?_
          rotate_left
          · intro w' s0
            obtain ⟨z0, z1, z2, z3, z4, z5, z6, z7⟩ := HC.out w' s0
            go_simp
            with_reducible rfl
          rotate_left
          · simp only [Act.put, List.setIfInBounds_toArray, List.set_cons_zero, List.set_cons_succ]
            rfl
          refine pure_ (i := 3) (N := some 16) (v := ?_) (a' := ?_) #[true, true, true, true, false, false, false, false, false, false, false, false] rfl rfl (by kernel_rfl) (fun _ _ _ h => h) (Or.inl ⟨by rfl, ?_⟩) ?_ ?_
          rotate_left
          · intro w'
            go_simp
            with_reducible rfl
          rotate_left
          · simp only [Act.put, List.setIfInBounds_toArray, List.set_cons_zero, List.set_cons_succ]
            rfl
          refine pure_ (i := 4) (N := some 17) (v := ?_) (a' := ?_) #[true, true, true, true, true, false, false, false, false, false, false, false] rfl rfl (by kernel_rfl) (fun _ _ _ h => h) (Or.inl ⟨by rfl, ?_⟩) ?_ ?_
          rotate_left
          · intro w'
            go_simp
            with_reducible rfl
          rotate_left
          · simp only [Act.put, List.setIfInBounds_toArray, List.set_cons_zero, List.set_cons_succ]
            rfl
          refine pure_ (i := 5) (N := some 18) (v := ?_) (a' := ?_) #[true, true, true, true, true, true, false, false, false, false, false, false] rfl rfl (by kernel_rfl) (fun _ _ _ h => h) (Or.inl ⟨by rfl, ?_⟩) ?_ ?_
          rotate_left
          · intro w'
            go_simp
            with_reducible rfl
          rotate_left
          · simp only [Act.put, List.setIfInBounds_toArray, List.set_cons_zero, List.set_cons_succ]
            rfl
          refine pure_ (i := 6) (N := some 19) (v := ?_) (a' := ?_) #[true, true, true, true, true, true, true, false, false, false, false, false] rfl rfl (by kernel_rfl) (fun _ _ _ h => h) (Or.inl ⟨by rfl, ?_⟩) ?_ ?_
          rotate_left
          · intro w'
            go_simp
            with_reducible rfl
          rotate_left
          · simp only [Act.put, List.setIfInBounds_toArray, List.set_cons_zero, List.set_cons_succ]
            rfl
          refine pure_ (i := 7) (N := some 20) (v := ?_) (a' := ?_) #[true, true, true, true, true, true, true, true, false, false, false, false] rfl rfl (by kernel_rfl) (fun _ _ _ h => h) (Or.inl ⟨by rfl, ?_⟩) ?_ ?_
          rotate_left
          · intro w'
            go_simp
            with_reducible rfl
          rotate_left
          · simp only [Act.put, List.setIfInBounds_toArray, List.set_cons_zero, List.set_cons_succ]
            rfl
          refine take_ (i := 8) (N := some 21) (v := ?_) (a' := ?_) #[true, true, true, true, true, true, true, true, true, false, false, false] rfl rfl (by kernel_rfl) (fun _ _ _ h => h) (Or.inl ⟨by rfl, ?_⟩) hHeld ?_ ?_
          rotate_left
          · intro w' s0
            obtain ⟨z0, z1, z2, z3, z4, z5, z6, z7⟩ := HC.out w' s0
            go_simp
            with_reducible rfl
          rotate_left
          · simp only [Act.put, List.setIfInBounds_toArray, List.set_cons_zero, List.set_cons_succ]
            rfl
          refine pure_ (i := 9) (N := some 22) (v := ?_) (a' := ?_) #[true, true, true, true, true, true, true, true, true, true, false, false] rfl rfl (by kernel_rfl) (fun _ _ _ h => h) (Or.inl ⟨by rfl, ?_⟩) ?_ ?_
          rotate_left
          · intro w'
            go_simp
            with_reducible rfl
          rotate_left
          · simp only [Act.put, List.setIfInBounds_toArray, List.set_cons_zero, List.set_cons_succ]
            rfl
          refine pure_ (i := 10) (N := some 23) (v := ?_) (a' := ?_) #[true, true, true, true, true, true, true, true, true, true, true, false] rfl rfl (by kernel_rfl) (fun _ _ _ h => h) (Or.inl ⟨by rfl, ?_⟩) ?_ ?_
          rotate_left
          · intro w'
            go_simp
            with_reducible rfl
          rotate_left
          · simp only [Act.put, List.setIfInBounds_toArray, List.set_cons_zero, List.set_cons_succ]
            rfl
          refine pure_ (i := 11) (N := some 4) (v := ?_) (a' := ?_) #[true, true, true, true, true, true, true, true, true, true, true, true] rfl rfl (by kernel_rfl) (fun _ _ _ h => h) (Or.inl ⟨by rfl, ?_⟩) ?_ ?_
          rotate_left
          · intro w'
            go_simp
            with_reducible rfl
          rotate_left
          · simp only [Act.put, List.setIfInBounds_toArray, List.set_cons_zero, List.set_cons_succ]
            rfl
          refine done_ (by kernel_rfl) ?_
          have BKD := Aside0.mk (show w3.drew.heap[q]? = some (.cells #[.int .i64 0, .int .i64 0, .int .i64 0, .string ByteArray.empty, .string ByteArray.empty, .slice none 0 0, .int .i64 0, .slice none 0 0] 26 (0, 0)) from BK.out)
          have HBD := Aside0.mk (below_drew HB3.out)
          clear hHeld
          generalize w3.drew = wd at BKD HBD ⊢
          obtain ⟨z0, z1, z2, z3, z4, z5, z6, z7⟩ := HC.out _ HBD.out
          clear BK HB3
          go_wp2_with (first | ((with_reducible refine gate_store (t := 26) (p := 2) rfl ?_); have hz0 := (blk_cell BKD.out 0).trans rfl; have hf0 := blk_frozen BKD.out 0; have hz1 := (blk_cell BKD.out 1).trans rfl; have hf1 := blk_frozen BKD.out 1; have hz2 := (blk_cell BKD.out 2).trans rfl; have hf2 := blk_frozen BKD.out 2; have hz3 := (blk_cell BKD.out 3).trans rfl; have hf3 := blk_frozen BKD.out 3; have hz4 := (blk_cell BKD.out 4).trans rfl; have hf4 := blk_frozen BKD.out 4; have hz5 := (blk_cell BKD.out 5).trans rfl; have hf5 := blk_frozen BKD.out 5; have hz6 := (blk_cell BKD.out 6).trans rfl; have hf6 := blk_frozen BKD.out 6; have hz7 := (blk_cell BKD.out 7).trans rfl; have hf7 := blk_frozen BKD.out 7; refine store_event (t := 26) (p := 2) (v := ?vo12) (w1 := ((((((((wd.setCell ⟨q, 0, none⟩ (.int .i64 0)).setCell ⟨q, 1, none⟩ (.int .i64 0)).setCell ⟨q, 2, none⟩ (.int .i64 0)).setCell ⟨q, 3, none⟩ (.string ByteArray.empty)).setCell ⟨q, 4, none⟩ (.string ByteArray.empty)).setCell ⟨q, 5, none⟩ (.slice none 0 0)).setCell ⟨q, 6, none⟩ (.int .i64 0)).setCell ⟨q, 7, none⟩ (.slice none 0 0))) ?hg ?ho ?hn ?hr ?_; (case ho => rfl); (case hg => rfl); (case hn => rfl); (case hr => first | (go_simp; done) | (go_simp; rfl)); intro w4 hw; have HX4 := Aside0.mk (show w4.heap[q]? = some (.cells #[.int .i64 0, .int .i64 0, .int .i64 0, .string ByteArray.empty, .string ByteArray.empty, .slice none 0 0, .int .i64 0, .slice none 0 0] 26 (0, 0)) ∧ Below w.heap.size w w4 from by rw [hw]; exact pk_stored BKD.out HBD.out (by rw [HQ.out]; exact Nat.le_refl _)); clear hw hz0 hz1 hz2 hz3 hz4 hz5 hz6 hz7 hf0 hf1 hf2 hf3 hf4 hf5 hf6 hf7))
          (try simp only [Exit.inBlock, Exit.then])
          refine bodyPost_ret (results_ct rfl _ _ q 26 _ (0, 0) _ rfl HX4.out.1 Try.underlying26 rfl info26) rfl ?_
          rw [PE.out]
          exact ⟨⟨_, _, rfl, Kd.R_nil _ _ _ _ _, Kd.R_nil _ _ _ _ _⟩, HX4.out.2⟩
        · have qgt : decide (40 + y4 * 256 + y5 < (n : Int)) = false := decide_eq_false hgt
          have hPE2 := HPE.out
          rw [if_neg (by simpa using h6), if_neg hlt, if_neg hgt] at hPE2
          have HPE2 := Aside0.mk hPE2
          clear hPE2 HPE h6 hlt hgt
          go_enter Try.func8, Try.ntmps8
          go_wp2_with (first | ((with_reducible refine gate_dst (N := 2) rfl ?_); refine box_event ?hg (N := 2) ?hd (cs := #[.int .i64 0, .int .i64 0, .int .i64 0, .string ByteArray.empty, .string ByteArray.empty, .slice none 0 0, .int .i64 0, .slice none 0 0]) (t := 26) ?hr ?_; (case hd => rfl); (case hg => rfl); (case hr => first | (go_simp; done) | (go_simp; rfl)); intro q hq w3 hbox hb3; have BK := Aside0.mk hbox; have HB3 := Aside0.mk hb3; have HQ := Aside0.mk hq; clear hbox hb3 hq))
          refine start_ (n := 12) (S := fun W => Below w.heap.size w W) (ds := []) #[false, false, false, false, false, false, false, false, false, false, false, false] (by kernel_rfl) rfl rfl (below_drew HB3.out) (fun hHeld => ?_)
          refine pure_ (i := 0) (N := some 13) (v := ?_) (a' := ?_) #[true, false, false, false, false, false, false, false, false, false, false, false] rfl rfl (by kernel_rfl) (fun _ _ _ h => h) (Or.inl ⟨by rfl, ?_⟩) ?_ ?_
          rotate_left
          · intro w'
            go_simp
            with_reducible rfl
          rotate_left
          · simp only [Act.put, List.setIfInBounds_toArray, List.set_cons_zero, List.set_cons_succ]
            rfl
          refine pure_ (i := 1) (N := some 14) (v := ?_) (a' := ?_) #[true, true, false, false, false, false, false, false, false, false, false, false] rfl rfl (by kernel_rfl) (fun _ _ _ h => h) (Or.inl ⟨by rfl, ?_⟩) ?_ ?_
          rotate_left
          · intro w'
            go_simp
            with_reducible rfl
          rotate_left
          · simp only [Act.put, List.setIfInBounds_toArray, List.set_cons_zero, List.set_cons_succ]
            rfl
          refine take_ (i := 2) (N := some 15) (v := ?_) (a' := ?_) #[true, true, true, false, false, false, false, false, false, false, false, false] rfl rfl (by kernel_rfl) (fun _ _ _ h => h) (Or.inl ⟨by rfl, ?_⟩) hHeld ?_ ?_
          rotate_left
          · intro w' s0
            obtain ⟨z0, z1, z2, z3, z4, z5, z6, z7⟩ := HC.out w' s0
            go_simp
            with_reducible rfl
          rotate_left
          · simp only [Act.put, List.setIfInBounds_toArray, List.set_cons_zero, List.set_cons_succ]
            rfl
          refine pure_ (i := 3) (N := some 16) (v := ?_) (a' := ?_) #[true, true, true, true, false, false, false, false, false, false, false, false] rfl rfl (by kernel_rfl) (fun _ _ _ h => h) (Or.inl ⟨by rfl, ?_⟩) ?_ ?_
          rotate_left
          · intro w'
            go_simp
            with_reducible rfl
          rotate_left
          · simp only [Act.put, List.setIfInBounds_toArray, List.set_cons_zero, List.set_cons_succ]
            rfl
          refine pure_ (i := 4) (N := some 17) (v := ?_) (a' := ?_) #[true, true, true, true, true, false, false, false, false, false, false, false] rfl rfl (by kernel_rfl) (fun _ _ _ h => h) (Or.inl ⟨by rfl, ?_⟩) ?_ ?_
          rotate_left
          · intro w'
            go_simp
            with_reducible rfl
          rotate_left
          · simp only [Act.put, List.setIfInBounds_toArray, List.set_cons_zero, List.set_cons_succ]
            rfl
          refine pure_ (i := 5) (N := some 18) (v := ?_) (a' := ?_) #[true, true, true, true, true, true, false, false, false, false, false, false] rfl rfl (by kernel_rfl) (fun _ _ _ h => h) (Or.inl ⟨by rfl, ?_⟩) ?_ ?_
          rotate_left
          · intro w'
            go_simp
            with_reducible rfl
          rotate_left
          · simp only [Act.put, List.setIfInBounds_toArray, List.set_cons_zero, List.set_cons_succ]
            rfl
          refine pure_ (i := 6) (N := some 19) (v := ?_) (a' := ?_) #[true, true, true, true, true, true, true, false, false, false, false, false] rfl rfl (by kernel_rfl) (fun _ _ _ h => h) (Or.inl ⟨by rfl, ?_⟩) ?_ ?_
          rotate_left
          · intro w'
            go_simp
            with_reducible rfl
          rotate_left
          · simp only [Act.put, List.setIfInBounds_toArray, List.set_cons_zero, List.set_cons_succ]
            rfl
          refine pure_ (i := 7) (N := some 20) (v := ?_) (a' := ?_) #[true, true, true, true, true, true, true, true, false, false, false, false] rfl rfl (by kernel_rfl) (fun _ _ _ h => h) (Or.inl ⟨by rfl, ?_⟩) ?_ ?_
          rotate_left
          · intro w'
            go_simp
            with_reducible rfl
          rotate_left
          · simp only [Act.put, List.setIfInBounds_toArray, List.set_cons_zero, List.set_cons_succ]
            rfl
          refine take_ (i := 8) (N := some 21) (v := ?_) (a' := ?_) #[true, true, true, true, true, true, true, true, true, false, false, false] rfl rfl (by kernel_rfl) (fun _ _ _ h => h) (Or.inl ⟨by rfl, ?_⟩) hHeld ?_ ?_
          rotate_left
          · intro w' s0
            obtain ⟨z0, z1, z2, z3, z4, z5, z6, z7⟩ := HC.out w' s0
            go_simp
            with_reducible rfl
          rotate_left
          · simp only [Act.put, List.setIfInBounds_toArray, List.set_cons_zero, List.set_cons_succ]
            rfl
          refine pure_ (i := 9) (N := some 22) (v := ?_) (a' := ?_) #[true, true, true, true, true, true, true, true, true, true, false, false] rfl rfl (by kernel_rfl) (fun _ _ _ h => h) (Or.inl ⟨by rfl, ?_⟩) ?_ ?_
          rotate_left
          · intro w'
            go_simp
            with_reducible rfl
          rotate_left
          · simp only [Act.put, List.setIfInBounds_toArray, List.set_cons_zero, List.set_cons_succ]
            rfl
          refine pure_ (i := 10) (N := some 23) (v := ?_) (a' := ?_) #[true, true, true, true, true, true, true, true, true, true, true, false] rfl rfl (by kernel_rfl) (fun _ _ _ h => h) (Or.inl ⟨by rfl, ?_⟩) ?_ ?_
          rotate_left
          · intro w'
            go_simp
            with_reducible rfl
          rotate_left
          · simp only [Act.put, List.setIfInBounds_toArray, List.set_cons_zero, List.set_cons_succ]
            rfl
          refine pure_ (i := 11) (N := some 4) (v := ?_) (a' := ?_) #[true, true, true, true, true, true, true, true, true, true, true, true] rfl rfl (by kernel_rfl) (fun _ _ _ h => h) (Or.inl ⟨by rfl, ?_⟩) ?_ ?_
          rotate_left
          · intro w'
            go_simp
            with_reducible rfl
          rotate_left
          · simp only [Act.put, List.setIfInBounds_toArray, List.set_cons_zero, List.set_cons_succ]
            rfl
          refine done_ (by kernel_rfl) ?_
          have BKD := Aside0.mk (show w3.drew.heap[q]? = some (.cells #[.int .i64 0, .int .i64 0, .int .i64 0, .string ByteArray.empty, .string ByteArray.empty, .slice none 0 0, .int .i64 0, .slice none 0 0] 26 (0, 0)) from BK.out)
          have HBD := Aside0.mk (below_drew HB3.out)
          clear hHeld
          generalize w3.drew = wd at BKD HBD ⊢
          obtain ⟨z0, z1, z2, z3, z4, z5, z6, z7⟩ := HC.out _ HBD.out
          clear BK HB3
          go_wp2_with (fail)
          have hn40 : 40 ≤ b.length := by have := HN.out; have := H40.out; omega
          have PN := Aside0.mk (parse_nums (y0 := y0) (y1 := y1) (y2 := y2) (y3 := y3) HYB.out.1 HYB.out.2.1 HYB.out.2.2.1 HYB.out.2.2.2)
          have hPE2 := HPE2.out
          obtain ⟨i5, hi5, _, hsz5, _⟩ := info_parts info5'
          obtain ⟨A2, hdrop, hdropr, hdropc⟩ := print_drop_of (P := Try.prog) (Value.int .u8) (0 : Int) 22 5 .i64 Try.underlying22 hi5 hsz5 (some ad) c0 b (40 : Int) (by omega) (by omega) (by have := HN.out; omega)
          have hLD : (b.drop 40).length = n - 40 := by rw [List.length_drop, HN.out]
          rw [show ((40 : Int)).toNat = 40 from rfl] at hdrop hdropr hdropc
          rw [hLD] at hdrop hdropr hdropc
          rw [HN.out] at hdrop hdropr
          have BW := Aside0.mk (fun W (hW : Below w.heap.size w W) => by
            have h := between_walk y6 A2 (c0 - 40) (b.drop 40) W (by rw [hLD]; exact hdropr W (by have := readsInt_below HR.out hW; rw [HN.out] at this; exact this)) (by rw [hLD]; exact hdropc) (by rw [hLD]; omega) (fun x hx => HBY.out x (List.mem_of_mem_drop hx)) (n + 1) (by rw [hLD]; omega)
            rw [hLD] at h
            exact h)
          clear hdropr hdropc hLD HPE2
          cases hE : btwE (n + 1) 0 y6 (b.drop 40) with
          | none =>
            have PE := Aside0.mk (show parseE b = (4, zPk) from by rw [hPE2, hE])
            rw [hE] at BW
            clear hPE2 hE HBY hn40
            refine start_ (n := 16) (S := fun W => Below w.heap.size w W) (ds := []) #[false, false, false, false, false, false, false, false, false, false, false, false, false, false, false, false] (by kernel_rfl) rfl rfl (below_drew HBD.out) (fun hHeld => ?_)
            refine pure_ (i := 0) (N := some 44) (v := ?_) (a' := ?_) #[true, false, false, false, false, false, false, false, false, false, false, false, false, false, false, false] rfl rfl (by kernel_rfl) (fun _ _ _ h => h) (Or.inl ⟨by rfl, ?_⟩) ?_ ?_
            rotate_left
            · intro w'
              go_simp
              with_reducible rfl
            rotate_left
            · simp only [Act.put, List.setIfInBounds_toArray, List.set_cons_zero, List.set_cons_succ]
              rfl
            refine pure_ (i := 1) (N := some 45) (v := ?_) (a' := ?_) #[true, true, false, false, false, false, false, false, false, false, false, false, false, false, false, false] rfl rfl (by kernel_rfl) (fun _ _ _ h => h) (Or.inl ⟨by rfl, ?_⟩) ?_ ?_
            rotate_left
            · intro w'
              go_simp
              with_reducible rfl
            rotate_left
            · simp only [Act.put, List.setIfInBounds_toArray, List.set_cons_zero, List.set_cons_succ]
              rfl
            refine take_ (i := 2) (N := some 46) (v := ?_) (a' := ?_) #[true, true, true, false, false, false, false, false, false, false, false, false, false, false, false, false] rfl rfl (by kernel_rfl) (fun _ _ _ h => h) (Or.inl ⟨by rfl, ?_⟩) hHeld ?_ ?_
            rotate_left
            · intro w' s0
              obtain ⟨z0, z1, z2, z3, z4, z5, z6, z7⟩ := HC.out w' s0
              go_simp
              with_reducible rfl
            rotate_left
            · simp only [Act.put, List.setIfInBounds_toArray, List.set_cons_zero, List.set_cons_succ]
              rfl
            refine pure_ (i := 3) (N := some 47) (v := ?_) (a' := ?_) #[true, true, true, true, false, false, false, false, false, false, false, false, false, false, false, false] rfl rfl (by kernel_rfl) (fun _ _ _ h => h) (Or.inl ⟨by rfl, ?_⟩) ?_ ?_
            rotate_left
            · intro w'
              go_simp
              with_reducible rfl
            rotate_left
            · simp only [Act.put, List.setIfInBounds_toArray, List.set_cons_zero, List.set_cons_succ]
              rfl
            refine pure_ (i := 4) (N := some 48) (v := ?_) (a' := ?_) #[true, true, true, true, true, false, false, false, false, false, false, false, false, false, false, false] rfl rfl (by kernel_rfl) (fun _ _ _ h => h) (Or.inl ⟨by rfl, ?_⟩) ?_ ?_
            rotate_left
            · intro w'
              go_simp
              with_reducible rfl
            rotate_left
            · simp only [Act.put, List.setIfInBounds_toArray, List.set_cons_zero, List.set_cons_succ]
              rfl
            refine pure_ (i := 5) (N := some 49) (v := ?_) (a' := ?_) #[true, true, true, true, true, true, false, false, false, false, false, false, false, false, false, false] rfl rfl (by kernel_rfl) (fun _ _ _ h => h) (Or.inl ⟨by rfl, ?_⟩) ?_ ?_
            rotate_left
            · intro w'
              go_simp
              with_reducible rfl
            rotate_left
            · simp only [Act.put, List.setIfInBounds_toArray, List.set_cons_zero, List.set_cons_succ]
              rfl
            refine one_ (i := 6) (N := some 50) #[true, true, true, true, true, true, true, false, false, false, false, false, false, false, false, false] rfl rfl (by kernel_rfl) (by decide) (fun K hK => ?_)
            refine goes_ Try.func20 (by kernel_rfl) rfl #[.int .i64 y6, .slice A2 (n - 40) (c0 - 40)] (by rfl) rfl rfl (by first | rfl | simp [Act.eval] | go_simp) ?_
            refine (BW.out _ (below_drew HBD.out)).mono ?_
            rintro e w6 ⟨⟨v, rfl, hv⟩, hb6⟩
            have hb6d := Aside0.mk ((below_drew (Below.refl wd.heap.size wd)).trans (hb6.mono (below_drew (Below.refl wd.heap.size wd)).size))
            have HB6 := Aside0.mk ((below_drew HBD.out).trans (hb6.mono (below_drew HBD.out).size))
            refine ⟨_, rfl, hK.out _ _ HB6.out (fun hHeld => ?_)⟩
            clear hK K hb6
            refine norm_ (a' := ?_) ?_ ?_
            rotate_left
            · show Act.put _ (some 50) _ = _
              simp only [Act.put, List.setIfInBounds_toArray, List.set_cons_zero, List.set_cons_succ]
              rfl
            refine pure_ (i := 7) (N := some 43) (v := ?_) (a' := ?_) #[true, true, true, true, true, true, true, true, false, false, false, false, false, false, false, false] rfl rfl (by kernel_rfl) (fun _ _ _ h => h) (Or.inl ⟨by rfl, ?_⟩) ?_ ?_
            rotate_left
            · intro w'
              go_simp
              with_reducible rfl
            rotate_left
            · simp only [Act.put, List.setIfInBounds_toArray, List.set_cons_zero, List.set_cons_succ]
              rfl
            refine pure_ (i := 8) (N := some 51) (v := ?_) (a' := ?_) #[true, true, true, true, true, true, true, true, true, false, false, false, false, false, false, false] rfl rfl (by kernel_rfl) (fun _ _ _ h => h) (Or.inl ⟨by rfl, ?_⟩) ?_ ?_
            rotate_left
            · intro w'
              go_simp
              with_reducible rfl
            rotate_left
            · simp only [Act.put, List.setIfInBounds_toArray, List.set_cons_zero, List.set_cons_succ]
              rfl
            refine pure_ (i := 9) (N := some 52) (v := ?_) (a' := ?_) #[true, true, true, true, true, true, true, true, true, true, false, false, false, false, false, false] rfl rfl (by kernel_rfl) (fun _ _ _ h => h) (Or.inl ⟨by rfl, ?_⟩) ?_ ?_
            rotate_left
            · intro w'
              go_simp
              with_reducible rfl
            rotate_left
            · simp only [Act.put, List.setIfInBounds_toArray, List.set_cons_zero, List.set_cons_succ]
              rfl
            refine pure_ (i := 10) (N := some 53) (v := ?_) (a' := ?_) #[true, true, true, true, true, true, true, true, true, true, true, false, false, false, false, false] rfl rfl (by kernel_rfl) (fun _ _ _ h => h) (Or.inl ⟨by rfl, ?_⟩) ?_ ?_
            rotate_left
            · intro w'
              go_simp
              with_reducible rfl
            rotate_left
            · simp only [Act.put, List.setIfInBounds_toArray, List.set_cons_zero, List.set_cons_succ]
              rfl
            refine pure_ (i := 11) (N := some 54) (v := ?_) (a' := ?_) #[true, true, true, true, true, true, true, true, true, true, true, true, false, false, false, false] rfl rfl (by kernel_rfl) (fun _ _ _ h => h) (Or.inl ⟨by rfl, ?_⟩) ?_ ?_
            rotate_left
            · intro w'
              go_simp
              with_reducible rfl
            rotate_left
            · simp only [Act.put, List.setIfInBounds_toArray, List.set_cons_zero, List.set_cons_succ]
              rfl
            refine pure_ (i := 12) (N := some 5) (v := ?_) (a' := ?_) #[true, true, true, true, true, true, true, true, true, true, true, true, true, false, false, false] rfl rfl (by kernel_rfl) (fun _ _ _ h => h) (Or.inl ⟨by rfl, ?_⟩) ?_ ?_
            rotate_left
            · intro w'
              go_simp
              with_reducible rfl
            rotate_left
            · simp only [Act.put, List.setIfInBounds_toArray, List.set_cons_zero, List.set_cons_succ]
              rfl
            refine pure_ (i := 13) (N := some 6) (v := ?_) (a' := ?_) #[true, true, true, true, true, true, true, true, true, true, true, true, true, true, false, false] rfl rfl (by kernel_rfl) (fun _ _ _ h => h) (Or.inl ⟨by rfl, ?_⟩) ?_ ?_
            rotate_left
            · intro w'
              go_simp
              with_reducible rfl
            rotate_left
            · simp only [Act.put, List.setIfInBounds_toArray, List.set_cons_zero, List.set_cons_succ]
              rfl
            refine pure_ (i := 14) (N := some 7) (v := ?_) (a' := ?_) #[true, true, true, true, true, true, true, true, true, true, true, true, true, true, true, false] rfl rfl (by kernel_rfl) (fun _ _ _ h => h) (Or.inl ⟨by rfl, ?_⟩) ?_ ?_
            rotate_left
            · intro w'
              go_simp
              with_reducible rfl
            rotate_left
            · simp only [Act.put, List.setIfInBounds_toArray, List.set_cons_zero, List.set_cons_succ]
              rfl
            refine pure_ (i := 15) (N := some 8) (v := ?_) (a' := ?_) #[true, true, true, true, true, true, true, true, true, true, true, true, true, true, true, true] rfl rfl (by kernel_rfl) (fun _ _ _ h => h) (Or.inl ⟨by rfl, ?_⟩) ?_ ?_
            rotate_left
            · intro w'
              go_simp
              with_reducible rfl
            rotate_left
            · simp only [Act.put, List.setIfInBounds_toArray, List.set_cons_zero, List.set_cons_succ]
              rfl
            refine done_ (by kernel_rfl) ?_
            have BK6 := Aside0.mk (show w6.heap[q]? = some (.cells #[.int .i64 0, .int .i64 0, .int .i64 0, .string ByteArray.empty, .string ByteArray.empty, .slice none 0 0, .int .i64 0, .slice none 0 0] 26 (0, 0)) from blk_below BKD.out hb6d.out)
            clear hHeld z0 z1 z2 z3 z4 z5 z6 z7
            have NM := Aside0.mk (number_err4 hv w6.heap.size (w6.alloc (.cells #[.int .i64 4] 27)) (blk_new _ _))
            obtain ⟨sv, rfl⟩ : ∃ sv : ByteArray, v = .iface 61 (.agg #[.string sv, .int .i64 4]) := by
              rcases hv with ⟨h, _⟩ | ⟨_, h⟩
              · exact absurd h (by decide)
              · exact h
            clear hv
            go_wp2_with (fail)
            refine NM.out.mono ?_
            rintro e w7 ⟨rfl, hb⟩
            have BK7 := Aside0.mk (show w7.heap[q]? = some (.cells #[.int .i64 0, .int .i64 0, .int .i64 0, .string ByteArray.empty, .string ByteArray.empty, .slice none 0 0, .int .i64 0, .slice none 0 0] 26 (0, 0)) from blk_below BK6.out ((below_alloc (Below.refl _ _) _).trans (hb.mono (below_alloc (Below.refl _ _) _).size)))
            have HB7 := Aside0.mk ((below_alloc HB6.out _).trans (hb.mono (below_alloc HB6.out _).size))
            clear hb NM
            go_wp2_with (first | ((with_reducible refine gate_store (t := 26) (p := 2) rfl ?_); have hz0 := (blk_cell BK7.out 0).trans rfl; have hf0 := blk_frozen BK7.out 0; have hz1 := (blk_cell BK7.out 1).trans rfl; have hf1 := blk_frozen BK7.out 1; have hz2 := (blk_cell BK7.out 2).trans rfl; have hf2 := blk_frozen BK7.out 2; have hz3 := (blk_cell BK7.out 3).trans rfl; have hf3 := blk_frozen BK7.out 3; have hz4 := (blk_cell BK7.out 4).trans rfl; have hf4 := blk_frozen BK7.out 4; have hz5 := (blk_cell BK7.out 5).trans rfl; have hf5 := blk_frozen BK7.out 5; have hz6 := (blk_cell BK7.out 6).trans rfl; have hf6 := blk_frozen BK7.out 6; have hz7 := (blk_cell BK7.out 7).trans rfl; have hf7 := blk_frozen BK7.out 7; refine store_event (t := 26) (p := 2) (v := ?vo21) (w1 := ((((((((w7.setCell ⟨q, 0, none⟩ (.int .i64 0)).setCell ⟨q, 1, none⟩ (.int .i64 0)).setCell ⟨q, 2, none⟩ (.int .i64 0)).setCell ⟨q, 3, none⟩ (.string ByteArray.empty)).setCell ⟨q, 4, none⟩ (.string ByteArray.empty)).setCell ⟨q, 5, none⟩ (.slice none 0 0)).setCell ⟨q, 6, none⟩ (.int .i64 0)).setCell ⟨q, 7, none⟩ (.slice none 0 0))) ?hg ?ho ?hn ?hr ?_; (case ho => rfl); (case hg => rfl); (case hn => rfl); (case hr => first | (go_simp; done) | (go_simp; rfl)); intro w4 hw; have HX4 := Aside0.mk (show w4.heap[q]? = some (.cells #[.int .i64 0, .int .i64 0, .int .i64 0, .string ByteArray.empty, .string ByteArray.empty, .slice none 0 0, .int .i64 0, .slice none 0 0] 26 (0, 0)) ∧ Below w.heap.size w w4 from by rw [hw]; exact pk_stored BK7.out HB7.out (by rw [HQ.out]; exact Nat.le_refl _)); clear hw hz0 hz1 hz2 hz3 hz4 hz5 hz6 hz7 hf0 hf1 hf2 hf3 hf4 hf5 hf6 hf7))
            (try simp only [Exit.inBlock, Exit.then])
            refine bodyPost_ret (results_ct rfl _ _ q 26 _ (0, 0) _ rfl HX4.out.1 Try.underlying26 rfl info26) rfl ?_
            rw [PE.out]
            exact ⟨⟨_, _, rfl, Kd.R_nil _ _ _ _ _, Kd.R_nil _ _ _ _ _⟩, HX4.out.2⟩
          | some r =>
            have PE := Aside0.mk (show parseE b = (0, ⟨y0 % 16 * 16 + y1 / 16, y1 % 16 * 65536 + y2 * 256 + y3, y7, strOfNums ((b.take 24).drop 8), strOfNums ((b.take 40).drop 24), r.1, r.2.1, r.2.2⟩) from by rw [hPE2, hE])
            have hEE := Aside0.mk hE
            rw [hE] at BW
            clear hPE2 hE HBY
            refine start_ (n := 16) (S := fun W => Below w.heap.size w W) (ds := []) #[false, false, false, false, false, false, false, false, false, false, false, false, false, false, false, false] (by kernel_rfl) rfl rfl (below_drew HBD.out) (fun hHeld => ?_)
            refine pure_ (i := 0) (N := some 44) (v := ?_) (a' := ?_) #[true, false, false, false, false, false, false, false, false, false, false, false, false, false, false, false] rfl rfl (by kernel_rfl) (fun _ _ _ h => h) (Or.inl ⟨by rfl, ?_⟩) ?_ ?_
            rotate_left
            · intro w'
              go_simp
              with_reducible rfl
            rotate_left
            · simp only [Act.put, List.setIfInBounds_toArray, List.set_cons_zero, List.set_cons_succ]
              rfl
            refine pure_ (i := 1) (N := some 45) (v := ?_) (a' := ?_) #[true, true, false, false, false, false, false, false, false, false, false, false, false, false, false, false] rfl rfl (by kernel_rfl) (fun _ _ _ h => h) (Or.inl ⟨by rfl, ?_⟩) ?_ ?_
            rotate_left
            · intro w'
              go_simp
              with_reducible rfl
            rotate_left
            · simp only [Act.put, List.setIfInBounds_toArray, List.set_cons_zero, List.set_cons_succ]
              rfl
            refine take_ (i := 2) (N := some 46) (v := ?_) (a' := ?_) #[true, true, true, false, false, false, false, false, false, false, false, false, false, false, false, false] rfl rfl (by kernel_rfl) (fun _ _ _ h => h) (Or.inl ⟨by rfl, ?_⟩) hHeld ?_ ?_
            rotate_left
            · intro w' s0
              obtain ⟨z0, z1, z2, z3, z4, z5, z6, z7⟩ := HC.out w' s0
              go_simp
              with_reducible rfl
            rotate_left
            · simp only [Act.put, List.setIfInBounds_toArray, List.set_cons_zero, List.set_cons_succ]
              rfl
            refine pure_ (i := 3) (N := some 47) (v := ?_) (a' := ?_) #[true, true, true, true, false, false, false, false, false, false, false, false, false, false, false, false] rfl rfl (by kernel_rfl) (fun _ _ _ h => h) (Or.inl ⟨by rfl, ?_⟩) ?_ ?_
            rotate_left
            · intro w'
              go_simp
              with_reducible rfl
            rotate_left
            · simp only [Act.put, List.setIfInBounds_toArray, List.set_cons_zero, List.set_cons_succ]
              rfl
            refine pure_ (i := 4) (N := some 48) (v := ?_) (a' := ?_) #[true, true, true, true, true, false, false, false, false, false, false, false, false, false, false, false] rfl rfl (by kernel_rfl) (fun _ _ _ h => h) (Or.inl ⟨by rfl, ?_⟩) ?_ ?_
            rotate_left
            · intro w'
              go_simp
              with_reducible rfl
            rotate_left
            · simp only [Act.put, List.setIfInBounds_toArray, List.set_cons_zero, List.set_cons_succ]
              rfl
            refine pure_ (i := 5) (N := some 49) (v := ?_) (a' := ?_) #[true, true, true, true, true, true, false, false, false, false, false, false, false, false, false, false] rfl rfl (by kernel_rfl) (fun _ _ _ h => h) (Or.inl ⟨by rfl, ?_⟩) ?_ ?_
            rotate_left
            · intro w'
              go_simp
              with_reducible rfl
            rotate_left
            · simp only [Act.put, List.setIfInBounds_toArray, List.set_cons_zero, List.set_cons_succ]
              rfl
            refine one_ (i := 6) (N := some 50) #[true, true, true, true, true, true, true, false, false, false, false, false, false, false, false, false] rfl rfl (by kernel_rfl) (by decide) (fun K hK => ?_)
            refine goes_ Try.func20 (by kernel_rfl) rfl #[.int .i64 y6, .slice A2 (n - 40) (c0 - 40)] (by rfl) rfl rfl (by first | rfl | simp [Act.eval] | go_simp) ?_
            refine (BW.out _ (below_drew HBD.out)).mono ?_
            rintro e w6 ⟨⟨ov, A7, c7, rfl, hov, hrd, hcap⟩, hb6⟩
            have hb6d := Aside0.mk ((below_drew (Below.refl wd.heap.size wd)).trans (hb6.mono (below_drew (Below.refl wd.heap.size wd)).size))
            have HOV := Aside0.mk hov
            have HRD := Aside0.mk hrd
            have HCAP := Aside0.mk hcap
            clear hov hrd hcap
            have HB6 := Aside0.mk ((below_drew HBD.out).trans (hb6.mono (below_drew HBD.out).size))
            refine ⟨_, rfl, hK.out _ _ HB6.out (fun hHeld => ?_)⟩
            clear hK K hb6
            refine norm_ (a' := ?_) ?_ ?_
            rotate_left
            · show Act.put _ (some 50) _ = _
              simp only [Act.put, List.setIfInBounds_toArray, List.set_cons_zero, List.set_cons_succ]
              rfl
            refine pure_ (i := 7) (N := some 43) (v := ?_) (a' := ?_) #[true, true, true, true, true, true, true, true, false, false, false, false, false, false, false, false] rfl rfl (by kernel_rfl) (fun _ _ _ h => h) (Or.inl ⟨by rfl, ?_⟩) ?_ ?_
            rotate_left
            · intro w'
              go_simp
              with_reducible rfl
            rotate_left
            · simp only [Act.put, List.setIfInBounds_toArray, List.set_cons_zero, List.set_cons_succ]
              rfl
            refine pure_ (i := 8) (N := some 51) (v := ?_) (a' := ?_) #[true, true, true, true, true, true, true, true, true, false, false, false, false, false, false, false] rfl rfl (by kernel_rfl) (fun _ _ _ h => h) (Or.inl ⟨by rfl, ?_⟩) ?_ ?_
            rotate_left
            · intro w'
              go_simp
              with_reducible rfl
            rotate_left
            · simp only [Act.put, List.setIfInBounds_toArray, List.set_cons_zero, List.set_cons_succ]
              rfl
            refine pure_ (i := 9) (N := some 52) (v := ?_) (a' := ?_) #[true, true, true, true, true, true, true, true, true, true, false, false, false, false, false, false] rfl rfl (by kernel_rfl) (fun _ _ _ h => h) (Or.inl ⟨by rfl, ?_⟩) ?_ ?_
            rotate_left
            · intro w'
              go_simp
              with_reducible rfl
            rotate_left
            · simp only [Act.put, List.setIfInBounds_toArray, List.set_cons_zero, List.set_cons_succ]
              rfl
            refine pure_ (i := 10) (N := some 53) (v := ?_) (a' := ?_) #[true, true, true, true, true, true, true, true, true, true, true, false, false, false, false, false] rfl rfl (by kernel_rfl) (fun _ _ _ h => h) (Or.inl ⟨by rfl, ?_⟩) ?_ ?_
            rotate_left
            · intro w'
              go_simp
              with_reducible rfl
            rotate_left
            · simp only [Act.put, List.setIfInBounds_toArray, List.set_cons_zero, List.set_cons_succ]
              rfl
            refine pure_ (i := 11) (N := some 54) (v := ?_) (a' := ?_) #[true, true, true, true, true, true, true, true, true, true, true, true, false, false, false, false] rfl rfl (by kernel_rfl) (fun _ _ _ h => h) (Or.inl ⟨by rfl, ?_⟩) ?_ ?_
            rotate_left
            · intro w'
              go_simp
              with_reducible rfl
            rotate_left
            · simp only [Act.put, List.setIfInBounds_toArray, List.set_cons_zero, List.set_cons_succ]
              rfl
            refine pure_ (i := 12) (N := some 5) (v := ?_) (a' := ?_) #[true, true, true, true, true, true, true, true, true, true, true, true, true, false, false, false] rfl rfl (by kernel_rfl) (fun _ _ _ h => h) (Or.inl ⟨by rfl, ?_⟩) ?_ ?_
            rotate_left
            · intro w'
              go_simp
              with_reducible rfl
            rotate_left
            · simp only [Act.put, List.setIfInBounds_toArray, List.set_cons_zero, List.set_cons_succ]
              rfl
            refine pure_ (i := 13) (N := some 6) (v := ?_) (a' := ?_) #[true, true, true, true, true, true, true, true, true, true, true, true, true, true, false, false] rfl rfl (by kernel_rfl) (fun _ _ _ h => h) (Or.inl ⟨by rfl, ?_⟩) ?_ ?_
            rotate_left
            · intro w'
              go_simp
              with_reducible rfl
            rotate_left
            · simp only [Act.put, List.setIfInBounds_toArray, List.set_cons_zero, List.set_cons_succ]
              rfl
            refine pure_ (i := 14) (N := some 7) (v := ?_) (a' := ?_) #[true, true, true, true, true, true, true, true, true, true, true, true, true, true, true, false] rfl rfl (by kernel_rfl) (fun _ _ _ h => h) (Or.inl ⟨by rfl, ?_⟩) ?_ ?_
            rotate_left
            · intro w'
              go_simp
              with_reducible rfl
            rotate_left
            · simp only [Act.put, List.setIfInBounds_toArray, List.set_cons_zero, List.set_cons_succ]
              rfl
            refine pure_ (i := 15) (N := some 8) (v := ?_) (a' := ?_) #[true, true, true, true, true, true, true, true, true, true, true, true, true, true, true, true] rfl rfl (by kernel_rfl) (fun _ _ _ h => h) (Or.inl ⟨by rfl, ?_⟩) ?_ ?_
            rotate_left
            · intro w'
              go_simp
              with_reducible rfl
            rotate_left
            · simp only [Act.put, List.setIfInBounds_toArray, List.set_cons_zero, List.set_cons_succ]
              rfl
            refine done_ (by kernel_rfl) ?_
            have BK6 := Aside0.mk (show w6.heap[q]? = some (.cells #[.int .i64 0, .int .i64 0, .int .i64 0, .string ByteArray.empty, .string ByteArray.empty, .slice none 0 0, .int .i64 0, .slice none 0 0] 26 (0, 0)) from blk_below BKD.out hb6d.out)
            obtain ⟨k, hk⟩ := btwE_rest _ _ _ _ _ hEE.out
            have hL : r.2.2.length ≤ 1000000 := by rw [hk, List.length_drop, List.length_drop, HN.out]; omega
            clear hk
            obtain ⟨L7, hL7⟩ : ∃ L, r.2.2.length = L := ⟨_, rfl⟩
            have CL := Aside0.mk (clone_walk A7 c7 r.2.2 w6.drew (readsInt_below HRD.out (below_drew (Below.refl w6.heap.size w6))) hL)
            rw [hL7] at CL ⊢
            clear hL
            obtain ⟨A5, c5, rfl⟩ := own_slice HOV.out.2.choose_spec.1
            obtain ⟨n5, hn5⟩ : ∃ n, r.1.length = n := ⟨_, rfl⟩
            rw [hn5] at HOV ⊢
            have HOV := Aside0.mk (base_less43 HOV.out (show w.heap.size ≤ wd.drew.heap.size from (below_drew HBD.out).size))
            obtain ⟨nxt, hnx⟩ : ∃ x, r.2.1 = x := ⟨_, rfl⟩
            rw [hnx] at PE ⊢
            obtain ⟨A8, hm8, hm8r, _⟩ := print_mid_int (P := Try.prog) (k := .u8) 22 5 Try.underlying22 hi5 hsz5 (some ad) c0 b (8 : Int) (24 : Int) (by omega) (by omega) (by omega) (by have := HN.out; omega)
            obtain ⟨A24, hm24, hm24r, _⟩ := print_mid_int (P := Try.prog) (k := .u8) 22 5 Try.underlying22 hi5 hsz5 (some ad) c0 b (24 : Int) (40 : Int) (by omega) (by omega) (by omega) (by have := HN.out; omega)
            rw [show ((8 : Int)).toNat = 8 from rfl, show ((24 : Int)).toNat = 24 from rfl] at hm8 hm8r
            rw [show ((24 : Int)).toNat = 24 from rfl, show ((40 : Int)).toNat = 40 from rfl] at hm24 hm24r
            obtain ⟨S8, hS8⟩ : ∃ S, strOfNums ((b.take 24).drop 8) = S := ⟨_, rfl⟩
            obtain ⟨S24, hS24⟩ : ∃ S, strOfNums ((b.take 40).drop 24) = S := ⟨_, rfl⟩
            have CV8 := Aside0.mk (fun W (hW : Below w.heap.size w W) => by have := string_of_reads (P := Try.prog) (c := c0 - 8) Try.underlying22 Try.underlying5 Try.underlying9 (hm8r W (readsInt_below HR.out hW)); rw [hS8] at this; exact this)
            have CV24 := Aside0.mk (fun W (hW : Below w.heap.size w W) => by have := string_of_reads (P := Try.prog) (c := c0 - 24) Try.underlying22 Try.underlying5 Try.underlying9 (hm24r W (readsInt_below HR.out hW)); rw [hS24] at this; exact this)
            have hl8 : ((b.take 24).drop 8).length = 16 := by rw [List.length_drop, List.length_take]; omega
            have hl24 : ((b.take 40).drop 24).length = 16 := by rw [List.length_drop, List.length_take]; omega
            rw [hl8] at hm8 CV8
            rw [hl24] at hm24 CV24
            rw [HN.out] at hm8 hm24
            rw [hS8, hS24] at PE
            obtain ⟨j1, j2, j3, j4, j5, j6, j7, j8, j9, j10, j11⟩ := PN.out
            clear hm8r hm24r hS8 hS24 hl8 hl24 hn40 hHeld z0 z1 z2 z3 z4 z5 z6 z7
            go_wp2_with (fail)
            refine start_ (n := 46) (S := fun W => Below w.heap.size w W) (ds := []) #[false, false, false, false, false, false, false, false, false, false, false, false, false, false, false, false, false, false, false, false, false, false, false, false, false, false, false, false, false, false, false, false, false, false, false, false, false, false, false, false, false, false, false, false, false, false] (by kernel_rfl) rfl rfl (below_drew HB6.out) (fun hHeld => ?_)
            refine pure_ (i := 0) (N := some 61) (v := ?_) (a' := ?_) #[true, false, false, false, false, false, false, false, false, false, false, false, false, false, false, false, false, false, false, false, false, false, false, false, false, false, false, false, false, false, false, false, false, false, false, false, false, false, false, false, false, false, false, false, false, false] rfl rfl (by kernel_rfl) (fun _ _ _ h => h) (Or.inl ⟨by rfl, ?_⟩) ?_ ?_
            rotate_left
            · intro w'
              go_simp
              with_reducible rfl
            rotate_left
            · simp only [Act.put, List.setIfInBounds_toArray, List.set_cons_zero, List.set_cons_succ]
              rfl
            refine pure_ (i := 1) (N := some 62) (v := ?_) (a' := ?_) #[true, true, false, false, false, false, false, false, false, false, false, false, false, false, false, false, false, false, false, false, false, false, false, false, false, false, false, false, false, false, false, false, false, false, false, false, false, false, false, false, false, false, false, false, false, false] rfl rfl (by kernel_rfl) (fun _ _ _ h => h) (Or.inl ⟨by rfl, ?_⟩) ?_ ?_
            rotate_left
            · intro w'
              go_simp
              with_reducible rfl
            rotate_left
            · simp only [Act.put, List.setIfInBounds_toArray, List.set_cons_zero, List.set_cons_succ]
              rfl
            refine take_ (i := 2) (N := some 63) (v := ?_) (a' := ?_) #[true, true, true, false, false, false, false, false, false, false, false, false, false, false, false, false, false, false, false, false, false, false, false, false, false, false, false, false, false, false, false, false, false, false, false, false, false, false, false, false, false, false, false, false, false, false] rfl rfl (by kernel_rfl) (fun _ _ _ h => h) (Or.inl ⟨by rfl, ?_⟩) hHeld ?_ ?_
            rotate_left
            · intro w' s0
              obtain ⟨z0, z1, z2, z3, z4, z5, z6, z7⟩ := HC.out w' s0
              have cv8 := CV8.out w' s0
              have cv24 := CV24.out w' s0
              go_simp
              with_reducible rfl
            rotate_left
            · simp only [Act.put, List.setIfInBounds_toArray, List.set_cons_zero, List.set_cons_succ]
              rfl
            refine pure_ (i := 3) (N := some 64) (v := ?_) (a' := ?_) #[true, true, true, true, false, false, false, false, false, false, false, false, false, false, false, false, false, false, false, false, false, false, false, false, false, false, false, false, false, false, false, false, false, false, false, false, false, false, false, false, false, false, false, false, false, false] rfl rfl (by kernel_rfl) (fun _ _ _ h => h) (Or.inl ⟨by rfl, ?_⟩) ?_ ?_
            rotate_left
            · intro w'
              go_simp
              with_reducible rfl
            rotate_left
            · simp only [Act.put, List.setIfInBounds_toArray, List.set_cons_zero, List.set_cons_succ]
              rfl
            refine pure_ (i := 4) (N := some 65) (v := ?_) (a' := ?_) #[true, true, true, true, true, false, false, false, false, false, false, false, false, false, false, false, false, false, false, false, false, false, false, false, false, false, false, false, false, false, false, false, false, false, false, false, false, false, false, false, false, false, false, false, false, false] rfl rfl (by kernel_rfl) (fun _ _ _ h => h) (Or.inl ⟨by rfl, ?_⟩) ?_ ?_
            rotate_left
            · intro w'
              go_simp
              with_reducible rfl
            rotate_left
            · simp only [Act.put, List.setIfInBounds_toArray, List.set_cons_zero, List.set_cons_succ]
              rfl
            refine pure_ (i := 5) (N := some 66) (v := ?_) (a' := ?_) #[true, true, true, true, true, true, false, false, false, false, false, false, false, false, false, false, false, false, false, false, false, false, false, false, false, false, false, false, false, false, false, false, false, false, false, false, false, false, false, false, false, false, false, false, false, false] rfl rfl (by kernel_rfl) (fun _ _ _ h => h) (Or.inl ⟨by rfl, ?_⟩) ?_ ?_
            rotate_left
            · intro w'
              go_simp
              with_reducible rfl
            rotate_left
            · simp only [Act.put, List.setIfInBounds_toArray, List.set_cons_zero, List.set_cons_succ]
              rfl
            refine pure_ (i := 6) (N := some 67) (v := ?_) (a' := ?_) #[true, true, true, true, true, true, true, false, false, false, false, false, false, false, false, false, false, false, false, false, false, false, false, false, false, false, false, false, false, false, false, false, false, false, false, false, false, false, false, false, false, false, false, false, false, false] rfl rfl (by kernel_rfl) (fun _ _ _ h => h) (Or.inl ⟨by rfl, ?_⟩) ?_ ?_
            rotate_left
            · intro w'
              go_simp
              with_reducible rfl
            rotate_left
            · simp only [Act.put, List.setIfInBounds_toArray, List.set_cons_zero, List.set_cons_succ]
              rfl
            refine pure_ (i := 7) (N := some 68) (v := ?_) (a' := ?_) #[true, true, true, true, true, true, true, true, false, false, false, false, false, false, false, false, false, false, false, false, false, false, false, false, false, false, false, false, false, false, false, false, false, false, false, false, false, false, false, false, false, false, false, false, false, false] rfl rfl (by kernel_rfl) (fun _ _ _ h => h) (Or.inl ⟨by rfl, ?_⟩) ?_ ?_
            rotate_left
            · intro w'
              go_simp
              with_reducible rfl
            rotate_left
            · simp only [Act.put, List.setIfInBounds_toArray, List.set_cons_zero, List.set_cons_succ]
              rfl
            refine take_ (i := 8) (N := some 69) (v := ?_) (a' := ?_) #[true, true, true, true, true, true, true, true, true, false, false, false, false, false, false, false, false, false, false, false, false, false, false, false, false, false, false, false, false, false, false, false, false, false, false, false, false, false, false, false, false, false, false, false, false, false] rfl rfl (by kernel_rfl) (fun _ _ _ h => h) (Or.inl ⟨by rfl, ?_⟩) hHeld ?_ ?_
            rotate_left
            · intro w' s0
              obtain ⟨z0, z1, z2, z3, z4, z5, z6, z7⟩ := HC.out w' s0
              have cv8 := CV8.out w' s0
              have cv24 := CV24.out w' s0
              go_simp
              with_reducible rfl
            rotate_left
            · simp only [Act.put, List.setIfInBounds_toArray, List.set_cons_zero, List.set_cons_succ]
              rfl
            refine pure_ (i := 9) (N := some 70) (v := ?_) (a' := ?_) #[true, true, true, true, true, true, true, true, true, true, false, false, false, false, false, false, false, false, false, false, false, false, false, false, false, false, false, false, false, false, false, false, false, false, false, false, false, false, false, false, false, false, false, false, false, false] rfl rfl (by kernel_rfl) (fun _ _ _ h => h) (Or.inl ⟨by rfl, ?_⟩) ?_ ?_
            rotate_left
            · intro w'
              go_simp
              with_reducible rfl
            rotate_left
            · simp only [Act.put, List.setIfInBounds_toArray, List.set_cons_zero, List.set_cons_succ]
              rfl
            refine pure_ (i := 10) (N := some 71) (v := ?_) (a' := ?_) #[true, true, true, true, true, true, true, true, true, true, true, false, false, false, false, false, false, false, false, false, false, false, false, false, false, false, false, false, false, false, false, false, false, false, false, false, false, false, false, false, false, false, false, false, false, false] rfl rfl (by kernel_rfl) (fun _ _ _ h => h) (Or.inl ⟨by rfl, ?_⟩) ?_ ?_
            rotate_left
            · intro w'
              go_simp
              with_reducible rfl
            rotate_left
            · simp only [Act.put, List.setIfInBounds_toArray, List.set_cons_zero, List.set_cons_succ]
              rfl
            refine pure_ (i := 11) (N := some 72) (v := ?_) (a' := ?_) #[true, true, true, true, true, true, true, true, true, true, true, true, false, false, false, false, false, false, false, false, false, false, false, false, false, false, false, false, false, false, false, false, false, false, false, false, false, false, false, false, false, false, false, false, false, false] rfl rfl (by kernel_rfl) (fun _ _ _ h => h) (Or.inl ⟨by rfl, ?_⟩) ?_ ?_
            rotate_left
            · intro w'
              go_simp
              with_reducible rfl
            rotate_left
            · simp only [Act.put, List.setIfInBounds_toArray, List.set_cons_zero, List.set_cons_succ]
              rfl
            refine pure_ (i := 12) (N := some 73) (v := ?_) (a' := ?_) #[true, true, true, true, true, true, true, true, true, true, true, true, true, false, false, false, false, false, false, false, false, false, false, false, false, false, false, false, false, false, false, false, false, false, false, false, false, false, false, false, false, false, false, false, false, false] rfl rfl (by kernel_rfl) (fun _ _ _ h => h) (Or.inl ⟨by rfl, ?_⟩) ?_ ?_
            rotate_left
            · intro w'
              go_simp
              with_reducible rfl
            rotate_left
            · simp only [Act.put, List.setIfInBounds_toArray, List.set_cons_zero, List.set_cons_succ]
              rfl
            refine pure_ (i := 13) (N := some 74) (v := ?_) (a' := ?_) #[true, true, true, true, true, true, true, true, true, true, true, true, true, true, false, false, false, false, false, false, false, false, false, false, false, false, false, false, false, false, false, false, false, false, false, false, false, false, false, false, false, false, false, false, false, false] rfl rfl (by kernel_rfl) (fun _ _ _ h => h) (Or.inl ⟨by rfl, ?_⟩) ?_ ?_
            rotate_left
            · intro w'
              go_simp
              with_reducible rfl
            rotate_left
            · simp only [Act.put, List.setIfInBounds_toArray, List.set_cons_zero, List.set_cons_succ]
              rfl
            refine take_ (i := 14) (N := some 75) (v := ?_) (a' := ?_) #[true, true, true, true, true, true, true, true, true, true, true, true, true, true, true, false, false, false, false, false, false, false, false, false, false, false, false, false, false, false, false, false, false, false, false, false, false, false, false, false, false, false, false, false, false, false] rfl rfl (by kernel_rfl) (fun _ _ _ h => h) (Or.inl ⟨by rfl, ?_⟩) hHeld ?_ ?_
            rotate_left
            · intro w' s0
              obtain ⟨z0, z1, z2, z3, z4, z5, z6, z7⟩ := HC.out w' s0
              have cv8 := CV8.out w' s0
              have cv24 := CV24.out w' s0
              go_simp
              with_reducible rfl
            rotate_left
            · simp only [Act.put, List.setIfInBounds_toArray, List.set_cons_zero, List.set_cons_succ]
              rfl
            refine pure_ (i := 15) (N := some 76) (v := ?_) (a' := ?_) #[true, true, true, true, true, true, true, true, true, true, true, true, true, true, true, true, false, false, false, false, false, false, false, false, false, false, false, false, false, false, false, false, false, false, false, false, false, false, false, false, false, false, false, false, false, false] rfl rfl (by kernel_rfl) (fun _ _ _ h => h) (Or.inl ⟨by rfl, ?_⟩) ?_ ?_
            rotate_left
            · intro w'
              go_simp
              with_reducible rfl
            rotate_left
            · simp only [Act.put, List.setIfInBounds_toArray, List.set_cons_zero, List.set_cons_succ]
              rfl
            refine pure_ (i := 16) (N := some 77) (v := ?_) (a' := ?_) #[true, true, true, true, true, true, true, true, true, true, true, true, true, true, true, true, true, false, false, false, false, false, false, false, false, false, false, false, false, false, false, false, false, false, false, false, false, false, false, false, false, false, false, false, false, false] rfl rfl (by kernel_rfl) (fun _ _ _ h => h) (Or.inl ⟨by rfl, ?_⟩) ?_ ?_
            rotate_left
            · intro w'
              go_simp
              with_reducible rfl
            rotate_left
            · simp only [Act.put, List.setIfInBounds_toArray, List.set_cons_zero, List.set_cons_succ]
              rfl
            refine pure_ (i := 17) (N := some 78) (v := ?_) (a' := ?_) #[true, true, true, true, true, true, true, true, true, true, true, true, true, true, true, true, true, true, false, false, false, false, false, false, false, false, false, false, false, false, false, false, false, false, false, false, false, false, false, false, false, false, false, false, false, false] rfl rfl (by kernel_rfl) (fun _ _ _ h => h) (Or.inl ⟨by rfl, ?_⟩) ?_ ?_
            rotate_left
            · intro w'
              go_simp
              with_reducible rfl
            rotate_left
            · simp only [Act.put, List.setIfInBounds_toArray, List.set_cons_zero, List.set_cons_succ]
              rfl
            refine pure_ (i := 18) (N := some 79) (v := ?_) (a' := ?_) #[true, true, true, true, true, true, true, true, true, true, true, true, true, true, true, true, true, true, true, false, false, false, false, false, false, false, false, false, false, false, false, false, false, false, false, false, false, false, false, false, false, false, false, false, false, false] rfl rfl (by kernel_rfl) (fun _ _ _ h => h) (Or.inl ⟨by rfl, ?_⟩) ?_ ?_
            rotate_left
            · intro w'
              go_simp
              with_reducible rfl
            rotate_left
            · simp only [Act.put, List.setIfInBounds_toArray, List.set_cons_zero, List.set_cons_succ]
              rfl
            refine pure_ (i := 19) (N := some 80) (v := ?_) (a' := ?_) #[true, true, true, true, true, true, true, true, true, true, true, true, true, true, true, true, true, true, true, true, false, false, false, false, false, false, false, false, false, false, false, false, false, false, false, false, false, false, false, false, false, false, false, false, false, false] rfl rfl (by kernel_rfl) (fun _ _ _ h => h) (Or.inl ⟨by rfl, ?_⟩) ?_ ?_
            rotate_left
            · intro w'
              go_simp
              with_reducible rfl
            rotate_left
            · simp only [Act.put, List.setIfInBounds_toArray, List.set_cons_zero, List.set_cons_succ]
              rfl
            refine take_ (i := 20) (N := some 81) (v := ?_) (a' := ?_) #[true, true, true, true, true, true, true, true, true, true, true, true, true, true, true, true, true, true, true, true, true, false, false, false, false, false, false, false, false, false, false, false, false, false, false, false, false, false, false, false, false, false, false, false, false, false] rfl rfl (by kernel_rfl) (fun _ _ _ h => h) (Or.inl ⟨by rfl, ?_⟩) hHeld ?_ ?_
            rotate_left
            · intro w' s0
              obtain ⟨z0, z1, z2, z3, z4, z5, z6, z7⟩ := HC.out w' s0
              have cv8 := CV8.out w' s0
              have cv24 := CV24.out w' s0
              go_simp
              with_reducible rfl
            rotate_left
            · simp only [Act.put, List.setIfInBounds_toArray, List.set_cons_zero, List.set_cons_succ]
              rfl
            refine pure_ (i := 21) (N := some 82) (v := ?_) (a' := ?_) #[true, true, true, true, true, true, true, true, true, true, true, true, true, true, true, true, true, true, true, true, true, true, false, false, false, false, false, false, false, false, false, false, false, false, false, false, false, false, false, false, false, false, false, false, false, false] rfl rfl (by kernel_rfl) (fun _ _ _ h => h) (Or.inl ⟨by rfl, ?_⟩) ?_ ?_
            rotate_left
            · intro w'
              go_simp
              with_reducible rfl
            rotate_left
            · simp only [Act.put, List.setIfInBounds_toArray, List.set_cons_zero, List.set_cons_succ]
              rfl
            refine pure_ (i := 22) (N := some 83) (v := ?_) (a' := ?_) #[true, true, true, true, true, true, true, true, true, true, true, true, true, true, true, true, true, true, true, true, true, true, true, false, false, false, false, false, false, false, false, false, false, false, false, false, false, false, false, false, false, false, false, false, false, false] rfl rfl (by kernel_rfl) (fun _ _ _ h => h) (Or.inl ⟨by rfl, ?_⟩) ?_ ?_
            rotate_left
            · intro w'
              go_simp
              with_reducible rfl
            rotate_left
            · simp only [Act.put, List.setIfInBounds_toArray, List.set_cons_zero, List.set_cons_succ]
              rfl
            refine pure_ (i := 23) (N := some 84) (v := ?_) (a' := ?_) #[true, true, true, true, true, true, true, true, true, true, true, true, true, true, true, true, true, true, true, true, true, true, true, true, false, false, false, false, false, false, false, false, false, false, false, false, false, false, false, false, false, false, false, false, false, false] rfl rfl (by kernel_rfl) (fun _ _ _ h => h) (Or.inl ⟨by rfl, ?_⟩) ?_ ?_
            rotate_left
            · intro w'
              go_simp
              with_reducible rfl
            rotate_left
            · simp only [Act.put, List.setIfInBounds_toArray, List.set_cons_zero, List.set_cons_succ]
              rfl
            refine pure_ (i := 24) (N := some 85) (v := ?_) (a' := ?_) #[true, true, true, true, true, true, true, true, true, true, true, true, true, true, true, true, true, true, true, true, true, true, true, true, true, false, false, false, false, false, false, false, false, false, false, false, false, false, false, false, false, false, false, false, false, false] rfl rfl (by kernel_rfl) (fun _ _ _ h => h) (Or.inl ⟨by rfl, ?_⟩) ?_ ?_
            rotate_left
            · intro w'
              go_simp
              with_reducible rfl
            rotate_left
            · simp only [Act.put, List.setIfInBounds_toArray, List.set_cons_zero, List.set_cons_succ]
              rfl
            refine pure_ (i := 25) (N := some 86) (v := ?_) (a' := ?_) #[true, true, true, true, true, true, true, true, true, true, true, true, true, true, true, true, true, true, true, true, true, true, true, true, true, true, false, false, false, false, false, false, false, false, false, false, false, false, false, false, false, false, false, false, false, false] rfl rfl (by kernel_rfl) (fun _ _ _ h => h) (Or.inl ⟨by rfl, ?_⟩) ?_ ?_
            rotate_left
            · intro w'
              go_simp
              with_reducible rfl
            rotate_left
            · simp only [Act.put, List.setIfInBounds_toArray, List.set_cons_zero, List.set_cons_succ]
              rfl
            refine take_ (i := 26) (N := some 87) (v := ?_) (a' := ?_) #[true, true, true, true, true, true, true, true, true, true, true, true, true, true, true, true, true, true, true, true, true, true, true, true, true, true, true, false, false, false, false, false, false, false, false, false, false, false, false, false, false, false, false, false, false, false] rfl rfl (by kernel_rfl) (fun _ _ _ h => h) (Or.inl ⟨by rfl, ?_⟩) hHeld ?_ ?_
            rotate_left
            · intro w' s0
              obtain ⟨z0, z1, z2, z3, z4, z5, z6, z7⟩ := HC.out w' s0
              have cv8 := CV8.out w' s0
              have cv24 := CV24.out w' s0
              go_simp
              with_reducible rfl
            rotate_left
            · simp only [Act.put, List.setIfInBounds_toArray, List.set_cons_zero, List.set_cons_succ]
              rfl
            refine pure_ (i := 27) (N := some 88) (v := ?_) (a' := ?_) #[true, true, true, true, true, true, true, true, true, true, true, true, true, true, true, true, true, true, true, true, true, true, true, true, true, true, true, true, false, false, false, false, false, false, false, false, false, false, false, false, false, false, false, false, false, false] rfl rfl (by kernel_rfl) (fun _ _ _ h => h) (Or.inl ⟨by rfl, ?_⟩) ?_ ?_
            rotate_left
            · intro w'
              go_simp
              with_reducible rfl
            rotate_left
            · simp only [Act.put, List.setIfInBounds_toArray, List.set_cons_zero, List.set_cons_succ]
              rfl
            refine pure_ (i := 28) (N := some 89) (v := ?_) (a' := ?_) #[true, true, true, true, true, true, true, true, true, true, true, true, true, true, true, true, true, true, true, true, true, true, true, true, true, true, true, true, true, false, false, false, false, false, false, false, false, false, false, false, false, false, false, false, false, false] rfl rfl (by kernel_rfl) (fun _ _ _ h => h) (Or.inl ⟨by rfl, ?_⟩) ?_ ?_
            rotate_left
            · intro w'
              go_simp
              with_reducible rfl
            rotate_left
            · simp only [Act.put, List.setIfInBounds_toArray, List.set_cons_zero, List.set_cons_succ]
              rfl
            refine pure_ (i := 29) (N := some 90) (v := ?_) (a' := ?_) #[true, true, true, true, true, true, true, true, true, true, true, true, true, true, true, true, true, true, true, true, true, true, true, true, true, true, true, true, true, true, false, false, false, false, false, false, false, false, false, false, false, false, false, false, false, false] rfl rfl (by kernel_rfl) (fun _ _ _ h => h) (Or.inl ⟨by rfl, ?_⟩) ?_ ?_
            rotate_left
            · intro w'
              go_simp
              with_reducible rfl
            rotate_left
            · simp only [Act.put, List.setIfInBounds_toArray, List.set_cons_zero, List.set_cons_succ]
              rfl
            refine pure_ (i := 30) (N := some 91) (v := ?_) (a' := ?_) #[true, true, true, true, true, true, true, true, true, true, true, true, true, true, true, true, true, true, true, true, true, true, true, true, true, true, true, true, true, true, true, false, false, false, false, false, false, false, false, false, false, false, false, false, false, false] rfl rfl (by kernel_rfl) (fun _ _ _ h => h) (Or.inl ⟨by rfl, ?_⟩) ?_ ?_
            rotate_left
            · intro w'
              go_simp
              with_reducible rfl
            rotate_left
            · simp only [Act.put, List.setIfInBounds_toArray, List.set_cons_zero, List.set_cons_succ]
              rfl
            refine take_ (i := 31) (N := some 92) (v := ?_) (a' := ?_) #[true, true, true, true, true, true, true, true, true, true, true, true, true, true, true, true, true, true, true, true, true, true, true, true, true, true, true, true, true, true, true, true, false, false, false, false, false, false, false, false, false, false, false, false, false, false] rfl rfl (by kernel_rfl) (fun _ _ _ h => h) (Or.inl ⟨by rfl, ?_⟩) hHeld ?_ ?_
            rotate_left
            · intro w' s0
              obtain ⟨z0, z1, z2, z3, z4, z5, z6, z7⟩ := HC.out w' s0
              have cv8 := CV8.out w' s0
              have cv24 := CV24.out w' s0
              go_simp
              with_reducible rfl
            rotate_left
            · simp only [Act.put, List.setIfInBounds_toArray, List.set_cons_zero, List.set_cons_succ]
              rfl
            refine pure_ (i := 32) (N := some 93) (v := ?_) (a' := ?_) #[true, true, true, true, true, true, true, true, true, true, true, true, true, true, true, true, true, true, true, true, true, true, true, true, true, true, true, true, true, true, true, true, true, false, false, false, false, false, false, false, false, false, false, false, false, false] rfl rfl (by kernel_rfl) (fun _ _ _ h => h) (Or.inl ⟨by rfl, ?_⟩) ?_ ?_
            rotate_left
            · intro w'
              go_simp
              with_reducible rfl
            rotate_left
            · simp only [Act.put, List.setIfInBounds_toArray, List.set_cons_zero, List.set_cons_succ]
              rfl
            refine pure_ (i := 33) (N := some 94) (v := ?_) (a' := ?_) #[true, true, true, true, true, true, true, true, true, true, true, true, true, true, true, true, true, true, true, true, true, true, true, true, true, true, true, true, true, true, true, true, true, true, false, false, false, false, false, false, false, false, false, false, false, false] rfl rfl (by kernel_rfl) (fun _ _ _ h => h) (Or.inl ⟨by rfl, ?_⟩) ?_ ?_
            rotate_left
            · intro w'
              go_simp
              with_reducible rfl
            rotate_left
            · simp only [Act.put, List.setIfInBounds_toArray, List.set_cons_zero, List.set_cons_succ]
              rfl
            refine pure_ (i := 34) (N := some 95) (v := ?_) (a' := ?_) #[true, true, true, true, true, true, true, true, true, true, true, true, true, true, true, true, true, true, true, true, true, true, true, true, true, true, true, true, true, true, true, true, true, true, true, false, false, false, false, false, false, false, false, false, false, false] rfl rfl (by kernel_rfl) (fun _ _ _ h => h) (Or.inl ⟨by rfl, ?_⟩) ?_ ?_
            rotate_left
            · intro w'
              go_simp
              with_reducible rfl
            rotate_left
            · simp only [Act.put, List.setIfInBounds_toArray, List.set_cons_zero, List.set_cons_succ]
              rfl
            refine take_ (i := 35) (N := some 96) (v := ?_) (a' := ?_) #[true, true, true, true, true, true, true, true, true, true, true, true, true, true, true, true, true, true, true, true, true, true, true, true, true, true, true, true, true, true, true, true, true, true, true, true, false, false, false, false, false, false, false, false, false, false] rfl rfl (by kernel_rfl) (fun _ _ _ h => h) (Or.inl ⟨by rfl, ?_⟩) hHeld ?_ ?_
            rotate_left
            · intro w' s0
              obtain ⟨z0, z1, z2, z3, z4, z5, z6, z7⟩ := HC.out w' s0
              have cv8 := CV8.out w' s0
              have cv24 := CV24.out w' s0
              go_simp
              with_reducible rfl
            rotate_left
            · simp only [Act.put, List.setIfInBounds_toArray, List.set_cons_zero, List.set_cons_succ]
              rfl
            refine pure_ (i := 36) (N := some 97) (v := ?_) (a' := ?_) #[true, true, true, true, true, true, true, true, true, true, true, true, true, true, true, true, true, true, true, true, true, true, true, true, true, true, true, true, true, true, true, true, true, true, true, true, true, false, false, false, false, false, false, false, false, false] rfl rfl (by kernel_rfl) (fun _ _ _ h => h) (Or.inl ⟨by rfl, ?_⟩) ?_ ?_
            rotate_left
            · intro w'
              go_simp
              with_reducible rfl
            rotate_left
            · simp only [Act.put, List.setIfInBounds_toArray, List.set_cons_zero, List.set_cons_succ]
              rfl
            refine pure_ (i := 37) (N := some 98) (v := ?_) (a' := ?_) #[true, true, true, true, true, true, true, true, true, true, true, true, true, true, true, true, true, true, true, true, true, true, true, true, true, true, true, true, true, true, true, true, true, true, true, true, true, true, false, false, false, false, false, false, false, false] rfl rfl (by kernel_rfl) (fun _ _ _ h => h) (Or.inl ⟨by rfl, ?_⟩) ?_ ?_
            rotate_left
            · intro w'
              go_simp
              with_reducible rfl
            rotate_left
            · simp only [Act.put, List.setIfInBounds_toArray, List.set_cons_zero, List.set_cons_succ]
              rfl
            refine take_ (i := 38) (N := some 99) (v := ?_) (a' := ?_) #[true, true, true, true, true, true, true, true, true, true, true, true, true, true, true, true, true, true, true, true, true, true, true, true, true, true, true, true, true, true, true, true, true, true, true, true, true, true, true, false, false, false, false, false, false, false] rfl rfl (by kernel_rfl) (fun _ _ _ h => h) (Or.inl ⟨by rfl, ?_⟩) hHeld ?_ ?_
            rotate_left
            · intro w' s0
              obtain ⟨z0, z1, z2, z3, z4, z5, z6, z7⟩ := HC.out w' s0
              have cv8 := CV8.out w' s0
              have cv24 := CV24.out w' s0
              go_simp
              with_reducible rfl
            rotate_left
            · simp only [Act.put, List.setIfInBounds_toArray, List.set_cons_zero, List.set_cons_succ]
              rfl
            refine pure_ (i := 39) (N := some 100) (v := ?_) (a' := ?_) #[true, true, true, true, true, true, true, true, true, true, true, true, true, true, true, true, true, true, true, true, true, true, true, true, true, true, true, true, true, true, true, true, true, true, true, true, true, true, true, true, false, false, false, false, false, false] rfl rfl (by kernel_rfl) (fun _ _ _ h => h) (Or.inl ⟨by rfl, ?_⟩) ?_ ?_
            rotate_left
            · intro w'
              go_simp
              with_reducible rfl
            rotate_left
            · simp only [Act.put, List.setIfInBounds_toArray, List.set_cons_zero, List.set_cons_succ]
              rfl
            refine pure_ (i := 40) (N := some 101) (v := ?_) (a' := ?_) #[true, true, true, true, true, true, true, true, true, true, true, true, true, true, true, true, true, true, true, true, true, true, true, true, true, true, true, true, true, true, true, true, true, true, true, true, true, true, true, true, true, false, false, false, false, false] rfl rfl (by kernel_rfl) (fun _ _ _ h => h) (Or.inl ⟨by rfl, ?_⟩) ?_ ?_
            rotate_left
            · intro w'
              go_simp
              with_reducible rfl
            rotate_left
            · simp only [Act.put, List.setIfInBounds_toArray, List.set_cons_zero, List.set_cons_succ]
              rfl
            refine pure_ (i := 41) (N := some 102) (v := ?_) (a' := ?_) #[true, true, true, true, true, true, true, true, true, true, true, true, true, true, true, true, true, true, true, true, true, true, true, true, true, true, true, true, true, true, true, true, true, true, true, true, true, true, true, true, true, true, false, false, false, false] rfl rfl (by kernel_rfl) (fun _ _ _ h => h) (Or.inl ⟨by rfl, ?_⟩) ?_ ?_
            rotate_left
            · intro w'
              go_simp
              with_reducible rfl
            rotate_left
            · simp only [Act.put, List.setIfInBounds_toArray, List.set_cons_zero, List.set_cons_succ]
              rfl
            refine one_ (i := 42) (N := some 103) #[true, true, true, true, true, true, true, true, true, true, true, true, true, true, true, true, true, true, true, true, true, true, true, true, true, true, true, true, true, true, true, true, true, true, true, true, true, true, true, true, true, true, true, false, false, false] rfl rfl (by kernel_rfl) (by decide) (fun K hK => ?_)
            refine goes_ Try.func22 (by kernel_rfl) rfl #[.slice A7 L7 c7] (by rfl) rfl rfl (by first | rfl | simp [Act.eval] | go_simp) ?_
            refine (CL.out).mono ?_
            rintro e w7 ⟨⟨dv, rfl, hdv⟩, hb7⟩
            have HB7 := Aside0.mk ((below_drew HB6.out).trans (hb7.mono (below_drew HB6.out).size))
            have HD7 := Aside0.mk ((below_drew (Below.refl w6.heap.size w6)).trans (hb7.mono (below_drew (Below.refl w6.heap.size w6)).size))
            have HDV := Aside0.mk (base_less hdv (below_drew HB6.out).size)
            obtain ⟨A9, c9, rfl⟩ := own_slice (Kd.own_of_R hdv)
            obtain ⟨n9, hn9⟩ : ∃ n9, r.2.2.length = n9 := ⟨_, rfl⟩
            rw [hn9] at HDV ⊢
            have BK7 := Aside0.mk (show w7.heap[q]? = some (.cells #[.int .i64 0, .int .i64 0, .int .i64 0, .string ByteArray.empty, .string ByteArray.empty, .slice none 0 0, .int .i64 0, .slice none 0 0] 26 (0, 0)) from blk_below BK6.out HD7.out)
            refine ⟨_, rfl, hK.out _ _ HB7.out (fun hHeld => ?_)⟩
            clear hK K hdv hb7 hn9
            refine norm_ (a' := ?_) ?_ ?_
            rotate_left
            · show Act.put _ (some 103) _ = _
              simp only [Act.put, List.setIfInBounds_toArray, List.set_cons_zero, List.set_cons_succ]
              rfl
            refine pure_ (i := 43) (N := some 104) (v := ?_) (a' := ?_) #[true, true, true, true, true, true, true, true, true, true, true, true, true, true, true, true, true, true, true, true, true, true, true, true, true, true, true, true, true, true, true, true, true, true, true, true, true, true, true, true, true, true, true, true, false, false] rfl rfl (by kernel_rfl) (fun _ _ _ h => h) (Or.inl ⟨by rfl, ?_⟩) ?_ ?_
            rotate_left
            · intro w'
              go_simp
              with_reducible rfl
            rotate_left
            · simp only [Act.put, List.setIfInBounds_toArray, List.set_cons_zero, List.set_cons_succ]
              rfl
            refine one_ (i := 44) (N := none) #[true, true, true, true, true, true, true, true, true, true, true, true, true, true, true, true, true, true, true, true, true, true, true, true, true, true, true, true, true, true, true, true, true, true, true, true, true, true, true, true, true, true, true, true, true, false] rfl rfl (by kernel_rfl) (by decide) (fun K hK => ?_)
            have hz0 := (blk_cell BK7.out 0).trans rfl
            have hf0 := blk_frozen BK7.out 0
            have hz1 := (blk_cell BK7.out 1).trans rfl
            have hf1 := blk_frozen BK7.out 1
            have hz2 := (blk_cell BK7.out 2).trans rfl
            have hf2 := blk_frozen BK7.out 2
            have hz3 := (blk_cell BK7.out 3).trans rfl
            have hf3 := blk_frozen BK7.out 3
            have hz4 := (blk_cell BK7.out 4).trans rfl
            have hf4 := blk_frozen BK7.out 4
            have hz5 := (blk_cell BK7.out 5).trans rfl
            have hf5 := blk_frozen BK7.out 5
            have hz6 := (blk_cell BK7.out 6).trans rfl
            have hf6 := blk_frozen BK7.out 6
            have hz7 := (blk_cell BK7.out 7).trans rfl
            have hf7 := blk_frozen BK7.out 7
            refine skip_ (w1 := ((((((((w7.setCell ⟨q, 0, none⟩ (.int .i64 (y0 % 16 * 16 + y1 / 16))).setCell ⟨q, 1, none⟩ (.int .i64 (y1 % 16 * 65536 + y2 * 256 + y3))).setCell ⟨q, 2, none⟩ (.int .i64 y7)).setCell ⟨q, 3, none⟩ (.string S8)).setCell ⟨q, 4, none⟩ (.string S24)).setCell ⟨q, 5, none⟩ (.slice A5 n5 c5)).setCell ⟨q, 6, none⟩ (.int .i64 nxt)).setCell ⟨q, 7, none⟩ (.slice A9 n9 c9))) (by rfl) rfl ?hr ?_
            case hr => first | (go_simp; done) | (go_simp; rfl)
            have HX4 := Aside0.mk (pk_stored (v0 := .int .i64 (y0 % 16 * 16 + y1 / 16)) (v1 := .int .i64 (y1 % 16 * 65536 + y2 * 256 + y3)) (v2 := .int .i64 y7) (v3 := .string S8) (v4 := .string S24) (v5 := .slice A5 n5 c5) (v6 := .int .i64 nxt) (v7 := .slice A9 n9 c9) BK7.out HB7.out (by rw [HQ.out]; exact Nat.le_refl _))
            have HO8 := Aside0.mk (pk_kept (v0 := .int .i64 (y0 % 16 * 16 + y1 / 16)) (v1 := .int .i64 (y1 % 16 * 65536 + y2 * 256 + y3)) (v2 := .int .i64 y7) (v3 := .string S8) (v4 := .string S24) (v5 := .slice A5 n5 c5) (v6 := .int .i64 nxt) (v7 := .slice A9 n9 c9) BK7.out (Kd.R_below HOV.out HD7.out) (by decide))
            have HV8 := Aside0.mk (pk_kept (v0 := .int .i64 (y0 % 16 * 16 + y1 / 16)) (v1 := .int .i64 (y1 % 16 * 65536 + y2 * 256 + y3)) (v2 := .int .i64 y7) (v3 := .string S8) (v4 := .string S24) (v5 := .slice A5 n5 c5) (v6 := .int .i64 nxt) (v7 := .slice A9 n9 c9) BK7.out HDV.out (by decide))
            refine hK.out _ _ HX4.out.2 (fun hHeld => ?_)
            clear hK K hz0 hz1 hz2 hz3 hz4 hz5 hz6 hz7 hf0 hf1 hf2 hf3 hf4 hf5 hf6 hf7
            obtain ⟨w8, hw8⟩ : ∃ x, ((((((((w7.setCell ⟨q, 0, none⟩ (.int .i64 (y0 % 16 * 16 + y1 / 16))).setCell ⟨q, 1, none⟩ (.int .i64 (y1 % 16 * 65536 + y2 * 256 + y3))).setCell ⟨q, 2, none⟩ (.int .i64 y7)).setCell ⟨q, 3, none⟩ (.string S8)).setCell ⟨q, 4, none⟩ (.string S24)).setCell ⟨q, 5, none⟩ (.slice A5 n5 c5)).setCell ⟨q, 6, none⟩ (.int .i64 nxt)).setCell ⟨q, 7, none⟩ (.slice A9 n9 c9)) = x := ⟨_, rfl⟩
            rw [hw8] at HX4 HO8 HV8 hHeld ⊢
            refine pure_ (i := 45) (N := some 3) (v := ?_) (a' := ?_) #[true, true, true, true, true, true, true, true, true, true, true, true, true, true, true, true, true, true, true, true, true, true, true, true, true, true, true, true, true, true, true, true, true, true, true, true, true, true, true, true, true, true, true, true, true, true] rfl rfl (by kernel_rfl) (fun _ _ _ h => h) (Or.inl ⟨by rfl, ?_⟩) ?_ ?_
            rotate_left
            · intro w'
              go_simp
              with_reducible rfl
            rotate_left
            · simp only [Act.put, List.setIfInBounds_toArray, List.set_cons_zero, List.set_cons_succ]
              rfl
            refine done_ (by kernel_rfl) ?_
            clear hHeld
            go_wp2_with (fail)
            (try simp only [Exit.inBlock, Exit.then])
            refine bodyPost_ret (results_ct rfl _ _ q 26 _ (0, 0) _ rfl HX4.out.1 Try.underlying26 rfl info26) rfl ?_
            rw [PE.out]
            exact ⟨⟨_, _, rfl, HO8.out, HV8.out⟩, HX4.out.2⟩
    · have q6 : (y0 / 16 != 6) = true := bne_iff_ne.mpr h6
      have PE := Aside0.mk (show parseE b = (4, zPk) from by rw [HPE.out, if_pos h6])
      clear h6 HPE HBY
      go_enter Try.func8, Try.ntmps8
      go_wp2_with (first | ((with_reducible refine gate_dst (N := 2) rfl ?_); refine box_event ?hg (N := 2) ?hd (cs := #[.int .i64 0, .int .i64 0, .int .i64 0, .string ByteArray.empty, .string ByteArray.empty, .slice none 0 0, .int .i64 0, .slice none 0 0]) (t := 26) ?hr ?_; (case hd => rfl); (case hg => rfl); (case hr => first | (go_simp; done) | (go_simp; rfl)); intro q hq w3 hbox hb3; have BK := Aside0.mk hbox; have HB3 := Aside0.mk hb3; have HQ := Aside0.mk hq; clear hbox hb3 hq))
      refine start_ (n := 12) (S := fun W => Below w.heap.size w W) (ds := []) #[false, false, false, false, false, false, false, false, false, false, false, false] (by kernel_rfl) rfl rfl (below_drew HB3.out) (fun hHeld => ?_)
      refine pure_ (i := 0) (N := some 13) (v := ?_) (a' := ?_) #[true, false, false, false, false, false, false, false, false, false, false, false] rfl rfl (by kernel_rfl) (fun _ _ _ h => h) (Or.inl ⟨by rfl, ?_⟩) ?_ ?_
      rotate_left
      · intro w'
        go_simp
        with_reducible rfl
      rotate_left
      · simp only [Act.put, List.setIfInBounds_toArray, List.set_cons_zero, List.set_cons_succ]
        rfl
      refine pure_ (i := 1) (N := some 14) (v := ?_) (a' := ?_) #[true, true, false, false, false, false, false, false, false, false, false, false] rfl rfl (by kernel_rfl) (fun _ _ _ h => h) (Or.inl ⟨by rfl, ?_⟩) ?_ ?_
      rotate_left
      · intro w'
        go_simp
        with_reducible rfl
      rotate_left
      · simp only [Act.put, List.setIfInBounds_toArray, List.set_cons_zero, List.set_cons_succ]
        rfl
      refine take_ (i := 2) (N := some 15) (v := ?_) (a' := ?_) #[true, true, true, false, false, false, false, false, false, false, false, false] rfl rfl (by kernel_rfl) (fun _ _ _ h => h) (Or.inl ⟨by rfl, ?_⟩) hHeld ?_ ?_
      rotate_left
      · intro w' s0
        obtain ⟨z0, z1, z2, z3, z4, z5, z6, z7⟩ := HC.out w' s0
        go_simp
        with_reducible rfl
      rotate_left
      · simp only [Act.put, List.setIfInBounds_toArray, List.set_cons_zero, List.set_cons_succ]
        rfl
      refine pure_ (i := 3) (N := some 16) (v := ?_) (a' := ?_) #[true, true, true, true, false, false, false, false, false, false, false, false] rfl rfl (by kernel_rfl) (fun _ _ _ h => h) (Or.inl ⟨by rfl, ?_⟩) ?_ ?_
      rotate_left
      · intro w'
        go_simp
        with_reducible rfl
      rotate_left
      · simp only [Act.put, List.setIfInBounds_toArray, List.set_cons_zero, List.set_cons_succ]
        rfl
      refine pure_ (i := 4) (N := some 17) (v := ?_) (a' := ?_) #[true, true, true, true, true, false, false, false, false, false, false, false] rfl rfl (by kernel_rfl) (fun _ _ _ h => h) (Or.inl ⟨by rfl, ?_⟩) ?_ ?_
      rotate_left
      · intro w'
        go_simp
        with_reducible rfl
      rotate_left
      · simp only [Act.put, List.setIfInBounds_toArray, List.set_cons_zero, List.set_cons_succ]
        rfl
      refine pure_ (i := 5) (N := some 18) (v := ?_) (a' := ?_) #[true, true, true, true, true, true, false, false, false, false, false, false] rfl rfl (by kernel_rfl) (fun _ _ _ h => h) (Or.inl ⟨by rfl, ?_⟩) ?_ ?_
      rotate_left
      · intro w'
        go_simp
        with_reducible rfl
      rotate_left
      · simp only [Act.put, List.setIfInBounds_toArray, List.set_cons_zero, List.set_cons_succ]
        rfl
      refine pure_ (i := 6) (N := some 19) (v := ?_) (a' := ?_) #[true, true, true, true, true, true, true, false, false, false, false, false] rfl rfl (by kernel_rfl) (fun _ _ _ h => h) (Or.inl ⟨by rfl, ?_⟩) ?_ ?_
      rotate_left
      · intro w'
        go_simp
        with_reducible rfl
      rotate_left
      · simp only [Act.put, List.setIfInBounds_toArray, List.set_cons_zero, List.set_cons_succ]
        rfl
      refine pure_ (i := 7) (N := some 20) (v := ?_) (a' := ?_) #[true, true, true, true, true, true, true, true, false, false, false, false] rfl rfl (by kernel_rfl) (fun _ _ _ h => h) (Or.inl ⟨by rfl, ?_⟩) ?_ ?_
      rotate_left
      · intro w'
        go_simp
        with_reducible rfl
      rotate_left
      · simp only [Act.put, List.setIfInBounds_toArray, List.set_cons_zero, List.set_cons_succ]
        rfl
      refine take_ (i := 8) (N := some 21) (v := ?_) (a' := ?_) #[true, true, true, true, true, true, true, true, true, false, false, false] rfl rfl (by kernel_rfl) (fun _ _ _ h => h) (Or.inl ⟨by rfl, ?_⟩) hHeld ?_ ?_
      rotate_left
      · intro w' s0
        obtain ⟨z0, z1, z2, z3, z4, z5, z6, z7⟩ := HC.out w' s0
        go_simp
        with_reducible rfl
      rotate_left
      · simp only [Act.put, List.setIfInBounds_toArray, List.set_cons_zero, List.set_cons_succ]
        rfl
      refine pure_ (i := 9) (N := some 22) (v := ?_) (a' := ?_) #[true, true, true, true, true, true, true, true, true, true, false, false] rfl rfl (by kernel_rfl) (fun _ _ _ h => h) (Or.inl ⟨by rfl, ?_⟩) ?_ ?_
      rotate_left
      · intro w'
        go_simp
        with_reducible rfl
      rotate_left
      · simp only [Act.put, List.setIfInBounds_toArray, List.set_cons_zero, List.set_cons_succ]
        rfl
      refine pure_ (i := 10) (N := some 23) (v := ?_) (a' := ?_) #[true, true, true, true, true, true, true, true, true, true, true, false] rfl rfl (by kernel_rfl) (fun _ _ _ h => h) (Or.inl ⟨by rfl, ?_⟩) ?_ ?_
      rotate_left
      · intro w'
        go_simp
        with_reducible rfl
      rotate_left
      · simp only [Act.put, List.setIfInBounds_toArray, List.set_cons_zero, List.set_cons_succ]
        rfl
      refine pure_ (i := 11) (N := some 4) (v := ?_) (a' := ?_) #[true, true, true, true, true, true, true, true, true, true, true, true] rfl rfl (by kernel_rfl) (fun _ _ _ h => h) (Or.inl ⟨by rfl, ?_⟩) ?_ ?_
      rotate_left
      · intro w'
        go_simp
        with_reducible rfl
      rotate_left
      · simp only [Act.put, List.setIfInBounds_toArray, List.set_cons_zero, List.set_cons_succ]
        rfl
      refine done_ (by kernel_rfl) ?_
      have BKD := Aside0.mk (show w3.drew.heap[q]? = some (.cells #[.int .i64 0, .int .i64 0, .int .i64 0, .string ByteArray.empty, .string ByteArray.empty, .slice none 0 0, .int .i64 0, .slice none 0 0] 26 (0, 0)) from BK.out)
      have HBD := Aside0.mk (below_drew HB3.out)
      clear hHeld
      generalize w3.drew = wd at BKD HBD ⊢
      obtain ⟨z0, z1, z2, z3, z4, z5, z6, z7⟩ := HC.out _ HBD.out
      clear BK HB3
      go_wp2_with (first | ((with_reducible refine gate_store (t := 26) (p := 2) rfl ?_); have hz0 := (blk_cell BKD.out 0).trans rfl; have hf0 := blk_frozen BKD.out 0; have hz1 := (blk_cell BKD.out 1).trans rfl; have hf1 := blk_frozen BKD.out 1; have hz2 := (blk_cell BKD.out 2).trans rfl; have hf2 := blk_frozen BKD.out 2; have hz3 := (blk_cell BKD.out 3).trans rfl; have hf3 := blk_frozen BKD.out 3; have hz4 := (blk_cell BKD.out 4).trans rfl; have hf4 := blk_frozen BKD.out 4; have hz5 := (blk_cell BKD.out 5).trans rfl; have hf5 := blk_frozen BKD.out 5; have hz6 := (blk_cell BKD.out 6).trans rfl; have hf6 := blk_frozen BKD.out 6; have hz7 := (blk_cell BKD.out 7).trans rfl; have hf7 := blk_frozen BKD.out 7; refine store_event (t := 26) (p := 2) (v := ?vo13) (w1 := ((((((((wd.setCell ⟨q, 0, none⟩ (.int .i64 0)).setCell ⟨q, 1, none⟩ (.int .i64 0)).setCell ⟨q, 2, none⟩ (.int .i64 0)).setCell ⟨q, 3, none⟩ (.string ByteArray.empty)).setCell ⟨q, 4, none⟩ (.string ByteArray.empty)).setCell ⟨q, 5, none⟩ (.slice none 0 0)).setCell ⟨q, 6, none⟩ (.int .i64 0)).setCell ⟨q, 7, none⟩ (.slice none 0 0))) ?hg ?ho ?hn ?hr ?_; (case ho => rfl); (case hg => rfl); (case hn => rfl); (case hr => first | (go_simp; done) | (go_simp; rfl)); intro w4 hw; have HX4 := Aside0.mk (show w4.heap[q]? = some (.cells #[.int .i64 0, .int .i64 0, .int .i64 0, .string ByteArray.empty, .string ByteArray.empty, .slice none 0 0, .int .i64 0, .slice none 0 0] 26 (0, 0)) ∧ Below w.heap.size w w4 from by rw [hw]; exact pk_stored BKD.out HBD.out (by rw [HQ.out]; exact Nat.le_refl _)); clear hw hz0 hz1 hz2 hz3 hz4 hz5 hz6 hz7 hf0 hf1 hf2 hf3 hf4 hf5 hf6 hf7))
      (try simp only [Exit.inBlock, Exit.then])
      refine bodyPost_ret (results_ct rfl _ _ q 26 _ (0, 0) _ rfl HX4.out.1 Try.underlying26 rfl info26) rfl ?_
      rw [PE.out]
      exact ⟨⟨_, _, rfl, Kd.R_nil _ _ _ _ _, Kd.R_nil _ _ _ _ _⟩, HX4.out.2⟩
end Go.Proofs.Ytpodidgdlcfaeaa.Ip6

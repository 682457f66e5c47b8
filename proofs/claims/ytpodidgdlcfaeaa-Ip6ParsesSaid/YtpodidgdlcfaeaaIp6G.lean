/- redoubtref04.Same of two packets that are the same; few. -/
import Derived.Test.YtpodidgdlcfaeaaIp6F
namespace Go.Proofs.Ytpodidgdlcfaeaa.Ip6
open Go.RowKit Go.Proofs.YtpodidgdlcfaeaaW.PrintWords Go.Proofs.YtpodidgdlcfaeaaW.PrintLast Go.Proofs.YtpodidgdlcfaeaaW.PrintMore Go.Proofs.Ytpodidgdlcfaeaa.PIp6Lays
set_option linter.unusedVariables false
set_option linter.unusedSimpArgs false
theorem exts_l0 (l : List S43) (hl : l.length ≤ 100000) : ∀ (m j : Nat), l.length - j = m → j ≤ l.length → redoubtref03_Exts.l0 (m + 1) l l (j : Int) = some true
  | 0, j, hm, hj => by
    rw [redoubtref03_Exts.l0, if_neg (by omega)]
  | m + 1, j, hm, hj => by
    rw [redoubtref03_Exts.l0, if_pos (by omega), if_pos (by omega), if_pos (by omega)]
    have e : wrap64 ((j : Int) + 1) = ((j + 1 : Nat) : Int) := by rw [IntWalk.wrap64_in _ (by omega)]; omega
    rw [if_neg (by simp), e]
    exact exts_l0 l hl m (j + 1) (by omega) (by omega)
theorem exts_same (l : List S43) (hl : l.length ≤ 100000) : redoubtref03_Exts.f (l.length + 1) l l = some true := by
  unfold redoubtref03_Exts.f
  rw [if_pos rfl]
  exact exts_l0 l hl l.length 0 (by omega) (by omega)
theorem few_l0 (c l h : Int) (s d : ByteArray) (ex : List S43) (nx : Int) (dt : List Int) (hl : ex.length ≤ 100000) : ∀ (m j : Nat), ex.length - j = m → j ≤ ex.length → ∃ r, redoubtlaw04_few.l0 (m + 1) (j : Int) c l h s d ex nx dt = some r ∧ (r = true → ∀ i, j ≤ i → i < ex.length → (ex.getD i z43).f1.size ≤ 2100)
  | 0, j, hm, hj => ⟨true, by rw [redoubtlaw04_few.l0, if_neg (by omega)], fun _ i h1 h2 => absurd h2 (by omega)⟩
  | m + 1, j, hm, hj => by
    rw [redoubtlaw04_few.l0, if_pos (by omega), if_pos (by omega)]
    have e : wrap64 ((j : Int) + 1) = ((j + 1 : Nat) : Int) := by rw [IntWalk.wrap64_in _ (by omega)]; omega
    have er : rd_T43 ex (j : Int) = ex.getD j z43 := by unfold rd_T43; rw [Int.toNat_natCast]
    rw [er, e]
    by_cases hb : ((ex.getD j z43).f1.size : Int) > 2100
    · exact ⟨false, by rw [if_pos hb], by simp⟩
    · obtain ⟨r, hr, hi⟩ := few_l0 c l h s d ex nx dt hl m (j + 1) (by omega) (by omega)
      refine ⟨r, by rw [if_neg hb, hr], fun ht i h1 h2 => ?_⟩
      by_cases hij : i = j
      · subst hij; omega
      · exact hi ht i (by omega) h2
/-- What few tells: bounds. -/
structure Few (ex : List S43) (dt : List Int) (s d : ByteArray) : Prop where
  sd : s.size + d.size ≤ 300
  exl : ex.length ≤ 40
  dat : dt.length ≤ 66000
  each : ∀ x ∈ ex, x.f1.size ≤ 2100
theorem few_plain (p : Pk) (h1 : p.src.size ≤ 140737488351232) (h2 : p.dst.size ≤ 140737488351232) :
    ∃ k r, redoubtlaw04_few.f k p.cls p.lab p.hop p.src p.dst p.ex p.nxt p.dat = some r ∧ (r = true → Few p.ex p.dat p.src p.dst) := by
  obtain ⟨cls, lab, hop, src, dst, ex, nxt, dat⟩ := p
  simp only at h1 h2 ⊢
  have hw : wrap64 ((src.size : Int) + (dst.size : Int)) = ((src.size + dst.size : Nat) : Int) := by rw [IntWalk.wrap64_in _ (by omega)]; omega
  unfold redoubtlaw04_few.f
  rw [hw]
  by_cases a1 : ((src.size + dst.size : Nat) : Int) > 300
  · exact ⟨1, false, by rw [if_pos a1]; rfl, by simp⟩
  by_cases a2 : (ex.length : Int) > 40
  · exact ⟨1, false, by rw [if_neg a1, if_pos a2]; rfl, by simp⟩
  obtain ⟨r, hr, hi⟩ := few_l0 cls lab hop src dst ex nxt dat (by omega) ex.length 0 (by omega) (by omega)
  have go : dat.length ≤ 66000 → redoubtlaw04_few.j0 (ex.length + 1 + 1) (decide ((dat.length : Int) > 66000)) cls lab hop src dst ex nxt dat = some r ∧ (r = true → Few ex dat src dst) := fun hd => by
    rw [redoubtlaw04_few.j0, if_neg (by simp; omega)]
    refine ⟨hr, fun ht => ⟨by omega, by omega, hd, fun x hx => ?_⟩⟩
    obtain ⟨i, hi', rfl⟩ := List.getElem_of_mem hx
    have := hi ht i (by omega) hi'
    rwa [List.getD_eq_getElem?_getD, List.getElem?_eq_getElem hi'] at this
  by_cases a4 : (dat.length : Int) > 66000
  · refine ⟨1, false, ?_, by simp⟩
    rw [if_neg a1, if_neg a2]
    have ed : decide ((dat.length : Int) > 66000) = true := decide_eq_true a4
    rw [if_pos (by omega), if_neg (by omega), ed]
    rfl
  · obtain ⟨g1, g2⟩ := go (by omega)
    by_cases a3 : (dat.length : Int) > 2000
    · by_cases a5 : (dat.length : Int) < 63000
      · exact ⟨1, false, by rw [if_neg a1, if_neg a2, if_pos a3, if_pos a5]; rfl, by simp⟩
      · exact ⟨ex.length + 1 + 1, r, by rw [if_neg a1, if_neg a2, if_pos a3, if_neg a5]; exact g1, g2⟩
    · exact ⟨ex.length + 1 + 1, r, by rw [if_neg a1, if_neg a2, if_neg a3]; exact g1, g2⟩
set_option maxHeartbeats 8000000 in
set_option maxRecDepth 100000 in
theorem same_walk (p : Pk) (A5 A7 B5 B7 : Option Addr) (c5 c7 d5 d7 : Nat) (hex : p.ex.length ≤ 100000) (w : World) (hr : PkR w p A5 c5 A7 c7) (hs : PkR w p B5 d5 B7 d7) :
    Calls Try.prog 11 #[.agg (p.cells A5 c5 A7 c7), .agg (p.cells B5 d5 B7 d7)] w fun e w' => e = .returned (.bool true) ∧ Below w.heap.size w w' := by
  have EX := Aside0.mk fun (W : World) (hb : Below w.heap.size w W) => redoubtref03_Exts.calls (p.ex.length + 1) A5 c5 p.ex B5 d5 p.ex true W (hr.below hb).r5 hr.h5 (hs.below hb).r5 hs.h5 (exts_same p.ex hex)
  have C1 := Aside0.mk fun (W : World) (hb : Below w.heap.size w W) => string_of_reads (P := Try.prog) (c := c7) Try.underlying22 Try.underlying5 Try.underlying9 (Kd.reads_of_C (enc := Value.int .u8) (d := (0 : Int)) (h1 := fun _ => rfl) (hr.below hb).r7)
  have C2 := Aside0.mk fun (W : World) (hb : Below w.heap.size w W) => string_of_reads (P := Try.prog) (c := d7) Try.underlying22 Try.underlying5 Try.underlying9 (Kd.reads_of_C (enc := Value.int .u8) (d := (0 : Int)) (h1 := fun _ => rfl) (hs.below hb).r7)
  obtain ⟨cls, lab, hop, src, dst, ex, nxt, dat⟩ := p
  show Calls Try.prog 11 #[.agg #[.int .i64 cls, .int .i64 lab, .int .i64 hop, .string src, .string dst, .slice A5 ex.length c5, .int .i64 nxt, .slice A7 dat.length c7], .agg #[.int .i64 cls, .int .i64 lab, .int .i64 hop, .string src, .string dst, .slice B5 ex.length d5, .int .i64 nxt, .slice B7 dat.length d7]] w _
  simp only at EX C1 C2
  clear hr hs hex
  go_enter Try.func11, Try.ntmps11
  go_wp2_with (fail)
  refine (EX.out _ (below_alloc (below_alloc (Below.refl _ _) _) _)).mono ?_
  rintro e w5 ⟨rfl, hd⟩
  have HB := Aside0.mk ((below_alloc (below_alloc (Below.refl w.heap.size w) _) _).trans (hd.below.mono (below_alloc (below_alloc (Below.refl w.heap.size w) _) _).size))
  have q1 := C1.out _ HB.out
  have q2 := C2.out _ HB.out
  have b1 : w5.heap[w.heap.size]? = some (.cells #[.int .i64 cls, .int .i64 lab, .int .i64 hop, .string src, .string dst, .slice A5 ex.length c5, .int .i64 nxt, .slice A7 dat.length c7] 26 (0, 0)) := blk_below (blk_below (blk_new w _) (below_alloc (Below.refl _ _) _)) hd.below
  have b2 : w5.heap[w.heap.size + 1]? = some (.cells #[.int .i64 cls, .int .i64 lab, .int .i64 hop, .string src, .string dst, .slice B5 ex.length d5, .int .i64 nxt, .slice B7 dat.length d7] 26 (0, 0)) := blk_below (show ((w.alloc _).alloc _).heap[w.heap.size + 1]? = _ from by have := blk_new (w.alloc (.cells #[.int .i64 cls, .int .i64 lab, .int .i64 hop, .string src, .string dst, .slice A5 ex.length c5, .int .i64 nxt, .slice A7 dat.length c7] 26)) (.cells #[.int .i64 cls, .int .i64 lab, .int .i64 hop, .string src, .string dst, .slice B5 ex.length d5, .int .i64 nxt, .slice B7 dat.length d7] 26); rw [World.size_alloc] at this; exact this) hd.below
  have z1 : w5.cell? ⟨w.heap.size, 7, none⟩ = some (.slice A7 dat.length c7) := (blk_cell b1 7).trans rfl
  have z2 : w5.cell? ⟨w.heap.size + 1, 7, none⟩ = some (.slice B7 dat.length d7) := (blk_cell b2 7).trans rfl
  clear b1 b2 hd
  go_wp2_with (fail)
  go_ret
  exact ⟨rfl, HB.out⟩
end Go.Proofs.Ytpodidgdlcfaeaa.Ip6

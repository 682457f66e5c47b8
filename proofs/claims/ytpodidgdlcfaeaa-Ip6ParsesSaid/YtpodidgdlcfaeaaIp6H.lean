/- redoubtlaw04.awake. -/
import Derived.Test.YtpodidgdlcfaeaaIp6D
import Derived.Test.YtpodidgdlcfaeaaIp6G
namespace Go.Proofs.Ytpodidgdlcfaeaa.Ip6
open Go.RowKit Go.Proofs.YtpodidgdlcfaeaaW.PrintWords Go.Proofs.YtpodidgdlcfaeaaW.PrintLast Go.Proofs.YtpodidgdlcfaeaaW.PrintMore Go.Proofs.Ytpodidgdlcfaeaa.PIp6Lays
set_option linter.unusedVariables false
set_option linter.unusedSimpArgs false
def zs16 : ByteArray := ⟨#[0, 0, 0, 0, 0, 0, 0, 0, 0, 0, 0, 0, 0, 0, 0, 0]⟩
def zs1 : ByteArray := ⟨#[0, 0, 0, 0, 0, 0, 0, 0, 0, 0, 0, 0, 0, 0, 0, 1]⟩
def p0 : Pk := ⟨0, 0, 64, zs16, zs1, [], 17, []⟩
def b0s : List Int := [96, 0, 0, 0, 0, 0, 17, 64, 0, 0, 0, 0, 0, 0, 0, 0, 0, 0, 0, 0, 0, 0, 0, 0, 0, 0, 0, 0, 0, 0, 0, 0, 0, 0, 0, 0, 0, 0, 0, 1]
theorem p0_small : Small p0 := ⟨by simp [p0], by simp [p0], by simp [p0], by decide, by decide, by decide, by decide, by decide, by decide, by simp [p0]⟩
theorem p0_check : checkE p0 = 0 := by
  unfold checkE
  rw [if_pos ⟨⟨by unfold inR p0; decide, by decide, by decide, by decide⟩, by decide⟩]
  rw [if_neg (by decide)]
theorem p0_bytes : bytesE p0 = b0s := by decide
theorem p0_parse : parseE b0s = (0, p0) := by kernel_rfl
theorem p0_more : (parseE (b0s ++ [0])).1 = 4 := by decide
theorem parse_walk' (A0 : Option Addr) (c0 : Nat) (b : List Int) (w : World) (hr : ReadsInt w .u8 A0 b.length b) (hc : b.length ≤ c0) (hl : b.length ≤ 100000) (hby : ∀ x ∈ b, 0 ≤ x ∧ x ≤ 255) :
    Calls Try.prog 8 #[.slice A0 b.length c0] w fun e w' => (∃ A5 c5 A7 c7, e = .returned (.tuple #[.agg ((parseE b).2.cells A5 c5 A7 c7), .int .i64 (parseE b).1]) ∧ PkR w' (parseE b).2 A5 c5 A7 c7) ∧ Below w.heap.size w w' := by
  refine (parse_walk A0 c0 b w hr hc hl hby).mono ?_
  rintro e w' ⟨⟨xv, dv, rfl, h1, h2⟩, hb⟩
  obtain ⟨A5, c5, rfl, l5, g5⟩ := Kd.R_reads h1
  obtain ⟨A7, c7, rfl, l7, g7⟩ := Kd.R_reads h2
  exact ⟨⟨A5, c5, A7, c7, rfl, g5, l5, g7, l7⟩, hb⟩
theorem own_le2 {w : World} {base : Nat} {A : Option Addr} {n c : Nat} {xs : List Int} (h : Own w base (.slice A n c) xs) : n ≤ c ∧ n = xs.length ∧ ReadsInt w .u8 A xs.length xs := by
  obtain ⟨A', c', e, hl, hr⟩ := own_reads_of_le (enc := Value.int .u8) (d := (0 : Int)) h
  injection e with h1 h2 h3
  subst h1
  subst h3
  exact ⟨by omega, h2, hr⟩
theorem bytes_walk' (p : Pk) (A5 A7 : Option Addr) (c5 c7 : Nat) (hp : Small p) (w : World) (hr : PkR w p A5 c5 A7 c7) :
    Calls Try.prog 13 #[.agg (p.cells A5 c5 A7 c7)] w fun e w' => (∃ (A : Option Addr) (c : Nat) (b : List Int), e = .returned (.tuple #[.slice A b.length c, .int .i64 (checkE p)]) ∧ (checkE p = 0 → b = bytesE p) ∧ (checkE p ≠ 0 → b = []) ∧ b.length ≤ c ∧ ReadsInt w' .u8 A b.length b) ∧ Below w.heap.size w w' := by
  by_cases hc : checkE p = 0
  · refine (bytes_walk p A5 A7 c5 c7 hp w hr hc).mono ?_
    rintro e w' ⟨⟨v, rfl, ho⟩, hb⟩
    obtain ⟨A, c, rfl⟩ := own_slice ho
    obtain ⟨h1, _, h3⟩ := own_le2 ho
    exact ⟨⟨A, c, bytesE p, by rw [hc], fun _ => rfl, fun h => absurd hc h, h1, h3⟩, hb⟩
  · refine (bytesErr_walk p A5 A7 c5 c7 hp w hr hc).mono ?_
    rintro e w' ⟨rfl, hb⟩
    exact ⟨⟨none, 0, [], rfl, fun h => absurd h hc, fun _ => rfl, Nat.le_refl _, rfl, by simp, fun h => absurd h (by simp)⟩, hb⟩
theorem ez3 : strOfNums b0s = (⟨#[96, 0, 0, 0, 0, 0, 17, 64, 0, 0, 0, 0, 0, 0, 0, 0, 0, 0, 0, 0, 0, 0, 0, 0]⟩ : ByteArray) ++ (⟨#[0, 0, 0, 0, 0, 0, 0, 0, 0, 0, 0, 0, 0, 0, 0, 0]⟩ : ByteArray).extract 1 16 ++ (⟨#[1]⟩ : ByteArray) := by kernel_rfl
theorem ez1 : (⟨#[0, 0, 0, 0, 0, 0, 0, 0, 0, 0, 0, 0, 0, 0, 0, 0]⟩ : ByteArray).extract 1 16 ++ (⟨#[1]⟩ : ByteArray) = zs1 := by decide
set_option maxHeartbeats 8000000 in
set_option maxRecDepth 100000 in
theorem awake_walk (w : World) : Calls Try.prog 10 #[] w fun e w' => e = .returned (.bool true) ∧ Below w.heap.size w w' := by
  go_enter Try.func10, Try.ntmps10
  go_wp2_with (fail)
  simp only [ez1]
  have BW := Aside0.mk (fun (W : World) => bytes_walk' p0 none none 0 0 p0_small W ⟨Kd.C_nil _ _, Nat.le_refl _, Kd.C_nil _ _, Nat.le_refl _⟩)
  have BK1 := Aside0.mk (blk_new w (.cells #[.int .i64 0, .int .i64 0, .int .i64 64, .string zs16, .string zs1, .slice none 0 0, .int .i64 17, .slice none 0 0] 26))
  refine (BW.out _).mono ?_
  rintro e w4 ⟨⟨A, c, bb, rfl, hb1, _, hbc, hbr⟩, hb4⟩
  obtain rfl : bb = b0s := by rw [hb1 p0_check]; exact p0_bytes
  rw [p0_check]
  have HB4 := Aside0.mk ((below_alloc (Below.refl w.heap.size w) _).trans (hb4.mono (below_alloc (Below.refl w.heap.size w) _).size))
  have BK4 := Aside0.mk (blk_below BK1.out hb4)
  have HR4 := Aside0.mk hbr
  have HC4 := Aside0.mk hbc
  have PW := Aside0.mk (fun (W : World) (hW : Below w4.heap.size w4 W) => parse_walk' A c b0s W (readsInt_below HR4.out hW) HC4.out (by decide) (by decide))
  rw [p0_parse] at PW
  obtain ⟨nb, hnb⟩ : ∃ n, b0s.length = n := ⟨_, rfl⟩
  rw [hnb] at PW HR4 HC4 ⊢
  clear hb1 hb4 hbr hbc BW BK1
  go_wp2_with (fail)
  refine (PW.out _ (Below.refl _ _)).mono ?_
  rintro e w5 ⟨⟨A5, c5, A7, c7, rfl, hp5⟩, hb5⟩
  have HP5 := Aside0.mk hp5
  have BK5 := Aside0.mk (blk_below BK4.out hb5)
  have HB5 := Aside0.mk (HB4.out.trans (hb5.mono HB4.out.size))
  have HR5 := Aside0.mk (readsInt_below HR4.out hb5)
  clear hp5 hb5 PW
  have HO1 := Aside0.mk (show ((w5.alloc (.cells #[.int .i64 p0.cls, .int .i64 p0.lab, .int .i64 p0.hop, .string p0.src, .string p0.dst, .slice A5 p0.ex.length c5, .int .i64 p0.nxt, .slice A7 p0.dat.length c7] 26)).alloc (.cells #[] 5)).ownsRow (w5.heap.size + 1) 5 1 (.slice (some ⟨w5.heap.size + 1, 0, none⟩) 0 0) 0 [] from by
    have h := own_lit (w5.alloc (.cells #[.int .i64 p0.cls, .int .i64 p0.lab, .int .i64 p0.hop, .string p0.src, .string p0.dst, .slice A5 p0.ex.length c5, .int .i64 p0.nxt, .slice A7 p0.dat.length c7] 26)) (w5.heap.size + 1) 5 .u8 [] (by simp) (by simp)
    rw [World.size_alloc] at h
    exact h)
  have HBA := Aside0.mk (show Below (w5.heap.size + 1) (w5.alloc (.cells #[.int .i64 p0.cls, .int .i64 p0.lab, .int .i64 p0.hop, .string p0.src, .string p0.dst, .slice A5 p0.ex.length c5, .int .i64 p0.nxt, .slice A7 p0.dat.length c7] 26)) ((w5.alloc (.cells #[.int .i64 p0.cls, .int .i64 p0.lab, .int .i64 p0.hop, .string p0.src, .string p0.dst, .slice A5 p0.ex.length c5, .int .i64 p0.nxt, .slice A7 p0.dat.length c7] 26)).alloc (.cells #[] 5)) from by
    have h := below_alloc (Below.refl (w5.alloc (.cells #[.int .i64 p0.cls, .int .i64 p0.lab, .int .i64 p0.hop, .string p0.src, .string p0.dst, .slice A5 p0.ex.length c5, .int .i64 p0.nxt, .slice A7 p0.dat.length c7] 26)).heap.size (w5.alloc (.cells #[.int .i64 p0.cls, .int .i64 p0.lab, .int .i64 p0.hop, .string p0.src, .string p0.dst, .slice A5 p0.ex.length c5, .int .i64 p0.nxt, .slice A7 p0.dat.length c7] 26))) (.cells #[] 5)
    rw [World.size_alloc] at h
    exact h)
  have HNB := Aside0.mk hnb
  have NB := Aside0.mk (show nb = 40 from hnb ▸ rfl)
  clear hnb
  go_wp2_with (first | ((with_reducible refine gate_builtin (b := .append) (xs := #[.tmp 22, .tmp 23]) rfl ?_); at_builtin; refine print_append_row (w0 := w5.alloc (.cells #[.int .i64 p0.cls, .int .i64 p0.lab, .int .i64 p0.hop, .string p0.src, .string p0.dst, .slice A5 p0.ex.length c5, .int .i64 p0.nxt, .slice A7 p0.dat.length c7] 26)) (w5.heap.size + 1) rfl (.tmp 22) (.tmp 23) 22 5 .u8 1 rfl Try.underlying22 info5' (by decide) _ [] b0s A nb c rfl rfl ?aO ?aR ?aB ?aS ?aL ?_; (case aO => exact HO1.out); (case aR => exact readsInt_below HR5.out (below_alloc (below_alloc (Below.refl w5.heap.size w5) _) _)); (case aB => exact HBA.out); (case aS => simp); (case aL => have := NB.out; simp only [List.length_nil]; omega); intro v1 w6 ho hb _ _; have HO6 := Aside0.mk ho; have HB6 := Aside0.mk hb; clear ho hb) | ((with_reducible refine gate_builtin (b := .append) (xs := #[.tmp 24, .tmp 25]) rfl ?_); at_builtin; refine print_append_num (w0 := w5.alloc (.cells #[.int .i64 p0.cls, .int .i64 p0.lab, .int .i64 p0.hop, .string p0.src, .string p0.dst, .slice A5 p0.ex.length c5, .int .i64 p0.nxt, .slice A7 p0.dat.length c7] 26)) (w5.heap.size + 1) rfl (.tmp 24) (.tmp 25) 22 5 .u8 1 rfl Try.underlying22 info5' (by decide) v1 b0s 0 rfl rfl ?aO ?aB ?aS ?aL ?_; (case aO => exact HO6.out); (case aB => exact HB6.out); (case aS => exact (by have := HB6.out.size; rw [World.size_alloc] at this; exact this)); (case aL => have := NB.out; have := HNB.out; omega); intro v2 w7 ho hb _ _; have HO7 := Aside0.mk ho; have HB7 := Aside0.mk hb; obtain ⟨A2, c2, hv2⟩ := own_slice ho; subst hv2; clear ho hb))
  obtain ⟨h1, _, h3⟩ := own_le2 HO7.out
  have hP := parse_walk' A2 c2 (b0s ++ [0]) w7 h3 h1 (by decide) (by decide)
  rw [p0_more] at hP
  refine hP.mono ?_
  clear hP h1 h3
  rintro e w8 ⟨⟨B5, d5, B7, d7, rfl, _⟩, hb8⟩
  have HB8 := Aside0.mk (HB7.out.trans (hb8.mono (by have := HB7.out.size; rw [World.size_alloc] at this; exact this)))
  go_wp2_with (fail)
  have hlt := blk_lt BK5.out
  have BX := Aside0.mk (show w8.heap[w5.heap.size]? = some (.cells #[.int .i64 p0.cls, .int .i64 p0.lab, .int .i64 p0.hop, .string p0.src, .string p0.dst, .slice A5 p0.ex.length c5, .int .i64 p0.nxt, .slice A7 p0.dat.length c7] 26) from by rw [HB8.out.block w5.heap.size (Nat.lt_succ_self _)]; exact blk_new w5 _)
  have BZ := Aside0.mk (show w8.heap[w.heap.size]? = some (.cells #[.int .i64 0, .int .i64 0, .int .i64 64, .string zs16, .string zs1, .slice none 0 0, .int .i64 17, .slice none 0 0] 26 (0, 0)) from by rw [HB8.out.block w.heap.size (by omega)]; exact blk_below BK5.out (below_alloc (Below.refl _ _) _))
  have B58 := Aside0.mk (show Below w5.heap.size w5 w8 from (below_alloc (Below.refl w5.heap.size w5) _).trans (HB8.out.mono (Nat.le_succ _)))
  have HW8 := Aside0.mk (HB5.out.trans (B58.out.mono HB5.out.size))
  clear hlt hb8
  generalize hW9 : w8.alloc _ = W9
  have B89 := Aside0.mk (show Below w8.heap.size w8 W9 from hW9 ▸ below_alloc (Below.refl w8.heap.size w8) _)
  have HW9 := Aside0.mk (HW8.out.trans (B89.out.mono HW8.out.size))
  have HP9 := Aside0.mk ((HP5.out.below B58.out).below B89.out)
  have HR9 := Aside0.mk (readsInt_below (readsInt_below HR5.out B58.out) B89.out)
  have BX9 := Aside0.mk (blk_below BX.out B89.out)
  have BZ9 := Aside0.mk (blk_below BZ.out B89.out)
  clear hW9 B58 B89 HW8 BX BZ HB8 HB7 HB6 HO7 HO6 HO1 HBA HB5 HR5 HP5 BK5 BK4 HB4 HR4
  have heq := ez3
  have CB := Aside0.mk (fun W (hW : Below W9.heap.size W9 W) => string_of_reads (P := Try.prog) (c := c) Try.underlying22 Try.underlying5 Try.underlying9 (readsInt_below HR9.out hW))
  have SM := Aside0.mk (fun W (hW : Below W9.heap.size W9 W) => (same_walk p0 none none A5 A7 0 0 c5 c7 (by decide) W ⟨Kd.C_nil _ _, Nat.le_refl _, Kd.C_nil _ _, Nat.le_refl _⟩ (HP9.out.below hW)))
  have CL := Aside0.mk (show ∀ W, Below W9.heap.size W9 W → W.cell? ⟨w.heap.size, 0, none⟩ = some (.int .i64 0) ∧ W.cell? ⟨w.heap.size, 1, none⟩ = some (.int .i64 0) ∧ W.cell? ⟨w.heap.size, 2, none⟩ = some (.int .i64 64) ∧ W.cell? ⟨w.heap.size, 3, none⟩ = some (.string zs16) ∧ W.cell? ⟨w.heap.size, 4, none⟩ = some (.string zs1) ∧ W.cell? ⟨w.heap.size, 5, none⟩ = some (.slice none 0 0) ∧ W.cell? ⟨w.heap.size, 6, none⟩ = some (.int .i64 17) ∧ W.cell? ⟨w.heap.size, 7, none⟩ = some (.slice none 0 0) ∧ W.cell? ⟨w5.heap.size, 0, none⟩ = some (.int .i64 p0.cls) ∧ W.cell? ⟨w5.heap.size, 1, none⟩ = some (.int .i64 p0.lab) ∧ W.cell? ⟨w5.heap.size, 2, none⟩ = some (.int .i64 p0.hop) ∧ W.cell? ⟨w5.heap.size, 3, none⟩ = some (.string p0.src) ∧ W.cell? ⟨w5.heap.size, 4, none⟩ = some (.string p0.dst) ∧ W.cell? ⟨w5.heap.size, 5, none⟩ = some (.slice A5 p0.ex.length c5) ∧ W.cell? ⟨w5.heap.size, 6, none⟩ = some (.int .i64 p0.nxt) ∧ W.cell? ⟨w5.heap.size, 7, none⟩ = some (.slice A7 p0.dat.length c7) from fun W hW => by
    have b1 := blk_below BZ9.out hW
    have b2 := blk_below BX9.out hW
    exact ⟨(blk_cell b1 0).trans rfl, (blk_cell b1 1).trans rfl, (blk_cell b1 2).trans rfl, (blk_cell b1 3).trans rfl, (blk_cell b1 4).trans rfl, (blk_cell b1 5).trans rfl, (blk_cell b1 6).trans rfl, (blk_cell b1 7).trans rfl, (blk_cell b2 0).trans rfl, (blk_cell b2 1).trans rfl, (blk_cell b2 2).trans rfl, (blk_cell b2 3).trans rfl, (blk_cell b2 4).trans rfl, (blk_cell b2 5).trans rfl, (blk_cell b2 6).trans rfl, (blk_cell b2 7).trans rfl⟩)
  refine start_ (n := 32) (S := fun W => Below W9.heap.size W9 W) (ds := []) #[false, false, false, false, false, false, false, false, false, false, false, false, false, false, false, false, false, false, false, false, false, false, false, false, false, false, false, false, false, false, false, false] (by kernel_rfl) rfl rfl (below_drew (Below.refl W9.heap.size W9)) (fun hHeld => ?_)
  refine pure_ (i := 0) (N := some 30) (v := ?_) (a' := ?_) #[true, false, false, false, false, false, false, false, false, false, false, false, false, false, false, false, false, false, false, false, false, false, false, false, false, false, false, false, false, false, false, false] rfl rfl (by kernel_rfl) (fun _ _ _ h => h) (Or.inl ⟨by rfl, ?_⟩) ?_ ?_
  rotate_left
  · intro w'
    go_simp
    with_reducible rfl
  rotate_left
  · simp only [Act.put, List.setIfInBounds_toArray, List.set_cons_zero, List.set_cons_succ]
    rfl
  refine take_ (i := 1) (N := some 31) (v := ?_) (a' := ?_) #[true, true, false, false, false, false, false, false, false, false, false, false, false, false, false, false, false, false, false, false, false, false, false, false, false, false, false, false, false, false, false, false] rfl rfl (by kernel_rfl) (fun _ _ _ h => h) (Or.inl ⟨by rfl, ?_⟩) hHeld ?_ ?_
  rotate_left
  · intro w' s0
    have cb := CB.out w' s0
    obtain ⟨z0, z1, z2, z3, z4, z5, z6, z7, z8, z9, z10, z11, z12, z13, z14, z15⟩ := CL.out w' s0
    go_simp
    with_reducible rfl
  rotate_left
  · simp only [Act.put, List.setIfInBounds_toArray, List.set_cons_zero, List.set_cons_succ]
    rfl
  refine pure_ (i := 2) (N := some 32) (v := ?_) (a' := ?_) #[true, true, true, false, false, false, false, false, false, false, false, false, false, false, false, false, false, false, false, false, false, false, false, false, false, false, false, false, false, false, false, false] rfl rfl (by kernel_rfl) (fun _ _ _ h => h) (Or.inl ⟨by rfl, ?_⟩) ?_ ?_
  rotate_left
  · intro w'
    go_simp
    with_reducible rfl
  rotate_left
  · simp only [Act.put, List.setIfInBounds_toArray, List.set_cons_zero, List.set_cons_succ]
    rfl
  refine pure_ (i := 3) (N := some 33) (v := ?_) (a' := ?_) #[true, true, true, true, false, false, false, false, false, false, false, false, false, false, false, false, false, false, false, false, false, false, false, false, false, false, false, false, false, false, false, false] rfl rfl (by kernel_rfl) (fun _ _ _ h => h) (Or.inl ⟨by rfl, ?_⟩) ?_ ?_
  rotate_left
  · intro w'
    go_simp
    with_reducible rfl
  rotate_left
  · simp only [Act.put, List.setIfInBounds_toArray, List.set_cons_zero, List.set_cons_succ]
    rfl
  refine pure_ (i := 4) (N := some 34) (v := ?_) (a' := ?_) #[true, true, true, true, true, false, false, false, false, false, false, false, false, false, false, false, false, false, false, false, false, false, false, false, false, false, false, false, false, false, false, false] rfl rfl (by kernel_rfl) (fun _ _ _ h => h) (Or.inl ⟨by rfl, ?_⟩) ?_ ?_
  rotate_left
  · intro w'
    go_simp
    with_reducible rfl
  rotate_left
  · simp only [Act.put, List.setIfInBounds_toArray, List.set_cons_zero, List.set_cons_succ]
    rfl
  refine pure_ (i := 5) (N := some 35) (v := ?_) (a' := ?_) #[true, true, true, true, true, true, false, false, false, false, false, false, false, false, false, false, false, false, false, false, false, false, false, false, false, false, false, false, false, false, false, false] rfl rfl (by kernel_rfl) (fun _ _ _ h => h) (Or.inl ⟨by rfl, ?_⟩) ?_ ?_
  rotate_left
  · intro w'
    go_simp
    with_reducible rfl
  rotate_left
  · simp only [Act.put, List.setIfInBounds_toArray, List.set_cons_zero, List.set_cons_succ]
    rfl
  refine pure_ (i := 6) (N := some 36) (v := ?_) (a' := ?_) #[true, true, true, true, true, true, true, false, false, false, false, false, false, false, false, false, false, false, false, false, false, false, false, false, false, false, false, false, false, false, false, false] rfl rfl (by kernel_rfl) (fun _ _ _ h => h) (Or.inl ⟨by rfl, ?_⟩) ?_ ?_
  rotate_left
  · intro w'
    go_simp
    with_reducible rfl
  rotate_left
  · simp only [Act.put, List.setIfInBounds_toArray, List.set_cons_zero, List.set_cons_succ]
    rfl
  refine pure_ (i := 7) (N := some 37) (v := ?_) (a' := ?_) #[true, true, true, true, true, true, true, true, false, false, false, false, false, false, false, false, false, false, false, false, false, false, false, false, false, false, false, false, false, false, false, false] rfl rfl (by kernel_rfl) (fun _ _ _ h => h) (Or.inl ⟨by rfl, ?_⟩) ?_ ?_
  rotate_left
  · intro w'
    go_simp
    with_reducible rfl
  rotate_left
  · simp only [Act.put, List.setIfInBounds_toArray, List.set_cons_zero, List.set_cons_succ]
    rfl
  refine pure_ (i := 8) (N := some 38) (v := ?_) (a' := ?_) #[true, true, true, true, true, true, true, true, true, false, false, false, false, false, false, false, false, false, false, false, false, false, false, false, false, false, false, false, false, false, false, false] rfl rfl (by kernel_rfl) (fun _ _ _ h => h) (Or.inl ⟨by rfl, ?_⟩) ?_ ?_
  rotate_left
  · intro w'
    go_simp
    with_reducible rfl
  rotate_left
  · simp only [Act.put, List.setIfInBounds_toArray, List.set_cons_zero, List.set_cons_succ]
    rfl
  refine pure_ (i := 9) (N := some 39) (v := ?_) (a' := ?_) #[true, true, true, true, true, true, true, true, true, true, false, false, false, false, false, false, false, false, false, false, false, false, false, false, false, false, false, false, false, false, false, false] rfl rfl (by kernel_rfl) (fun _ _ _ h => h) (Or.inl ⟨by rfl, ?_⟩) ?_ ?_
  rotate_left
  · intro w'
    go_simp
    with_reducible rfl
  rotate_left
  · simp only [Act.put, List.setIfInBounds_toArray, List.set_cons_zero, List.set_cons_succ]
    rfl
  refine pure_ (i := 10) (N := some 40) (v := ?_) (a' := ?_) #[true, true, true, true, true, true, true, true, true, true, true, false, false, false, false, false, false, false, false, false, false, false, false, false, false, false, false, false, false, false, false, false] rfl rfl (by kernel_rfl) (fun _ _ _ h => h) (Or.inl ⟨by rfl, ?_⟩) ?_ ?_
  rotate_left
  · intro w'
    go_simp
    with_reducible rfl
  rotate_left
  · simp only [Act.put, List.setIfInBounds_toArray, List.set_cons_zero, List.set_cons_succ]
    rfl
  refine take_ (i := 11) (N := some 41) (v := ?_) (a' := ?_) #[true, true, true, true, true, true, true, true, true, true, true, true, false, false, false, false, false, false, false, false, false, false, false, false, false, false, false, false, false, false, false, false] rfl rfl (by kernel_rfl) (fun _ _ _ h => h) (Or.inl ⟨by rfl, ?_⟩) hHeld ?_ ?_
  rotate_left
  · intro w' s0
    have cb := CB.out w' s0
    obtain ⟨z0, z1, z2, z3, z4, z5, z6, z7, z8, z9, z10, z11, z12, z13, z14, z15⟩ := CL.out w' s0
    go_simp
    with_reducible rfl
  rotate_left
  · simp only [Act.put, List.setIfInBounds_toArray, List.set_cons_zero, List.set_cons_succ]
    rfl
  refine take_ (i := 12) (N := some 42) (v := ?_) (a' := ?_) #[true, true, true, true, true, true, true, true, true, true, true, true, true, false, false, false, false, false, false, false, false, false, false, false, false, false, false, false, false, false, false, false] rfl rfl (by kernel_rfl) (fun _ _ _ h => h) (Or.inl ⟨by rfl, ?_⟩) hHeld ?_ ?_
  rotate_left
  · intro w' s0
    have cb := CB.out w' s0
    obtain ⟨z0, z1, z2, z3, z4, z5, z6, z7, z8, z9, z10, z11, z12, z13, z14, z15⟩ := CL.out w' s0
    go_simp
    with_reducible rfl
  rotate_left
  · simp only [Act.put, List.setIfInBounds_toArray, List.set_cons_zero, List.set_cons_succ]
    rfl
  refine one_ (i := 13) (N := some 43) #[true, true, true, true, true, true, true, true, true, true, true, true, true, true, false, false, false, false, false, false, false, false, false, false, false, false, false, false, false, false, false, false] rfl rfl (by kernel_rfl) (by decide) (fun K hK => ?_)
  refine goes_ Try.func11 (by kernel_rfl) rfl #[.agg #[.int .i64 0, .int .i64 0, .int .i64 64, .string zs16, .string zs1, .slice none 0 0, .int .i64 17, .slice none 0 0], .agg #[.int .i64 p0.cls, .int .i64 p0.lab, .int .i64 p0.hop, .string p0.src, .string p0.dst, .slice A5 p0.ex.length c5, .int .i64 p0.nxt, .slice A7 p0.dat.length c7]] (by rfl) rfl rfl (by first | rfl | simp [Act.eval] | go_simp) ?_
  refine (SM.out _ hHeld).mono ?_
  rintro e w11 ⟨rfl, hb⟩
  refine ⟨_, rfl, hK.out _ _ (hHeld.trans (hb.mono hHeld.size)) (fun hHeld => ?_)⟩
  clear hK K
  refine norm_ (a' := ?_) ?_ ?_
  rotate_left
  · show Act.put _ (some 43) _ = _
    simp only [Act.put, List.setIfInBounds_toArray, List.set_cons_zero, List.set_cons_succ]
    rfl
  refine pure_ (i := 14) (N := some 44) (v := ?_) (a' := ?_) #[true, true, true, true, true, true, true, true, true, true, true, true, true, true, true, false, false, false, false, false, false, false, false, false, false, false, false, false, false, false, false, false] rfl rfl (by kernel_rfl) (fun _ _ _ h => h) (Or.inl ⟨by rfl, ?_⟩) ?_ ?_
  rotate_left
  · intro w'
    go_simp
    with_reducible rfl
  rotate_left
  · simp only [Act.put, List.setIfInBounds_toArray, List.set_cons_zero, List.set_cons_succ]
    rfl
  refine pure_ (i := 15) (N := some 45) (v := ?_) (a' := ?_) #[true, true, true, true, true, true, true, true, true, true, true, true, true, true, true, true, false, false, false, false, false, false, false, false, false, false, false, false, false, false, false, false] rfl rfl (by kernel_rfl) (fun _ _ _ h => h) (Or.inl ⟨by rfl, ?_⟩) ?_ ?_
  rotate_left
  · intro w'
    go_simp
    with_reducible rfl
  rotate_left
  · simp only [Act.put, List.setIfInBounds_toArray, List.set_cons_zero, List.set_cons_succ]
    rfl
  refine pure_ (i := 16) (N := some 46) (v := ?_) (a' := ?_) #[true, true, true, true, true, true, true, true, true, true, true, true, true, true, true, true, true, false, false, false, false, false, false, false, false, false, false, false, false, false, false, false] rfl rfl (by kernel_rfl) (fun _ _ _ h => h) (Or.inl ⟨by rfl, ?_⟩) ?_ ?_
  rotate_left
  · intro w'
    go_simp
    with_reducible rfl
  rotate_left
  · simp only [Act.put, List.setIfInBounds_toArray, List.set_cons_zero, List.set_cons_succ]
    rfl
  refine pure_ (i := 17) (N := some 47) (v := ?_) (a' := ?_) #[true, true, true, true, true, true, true, true, true, true, true, true, true, true, true, true, true, true, false, false, false, false, false, false, false, false, false, false, false, false, false, false] rfl rfl (by kernel_rfl) (fun _ _ _ h => h) (Or.inl ⟨by rfl, ?_⟩) ?_ ?_
  rotate_left
  · intro w'
    go_simp
    with_reducible rfl
  rotate_left
  · simp only [Act.put, List.setIfInBounds_toArray, List.set_cons_zero, List.set_cons_succ]
    rfl
  refine pure_ (i := 18) (N := some 48) (v := ?_) (a' := ?_) #[true, true, true, true, true, true, true, true, true, true, true, true, true, true, true, true, true, true, true, false, false, false, false, false, false, false, false, false, false, false, false, false] rfl rfl (by kernel_rfl) (fun _ _ _ h => h) (Or.inl ⟨by rfl, ?_⟩) ?_ ?_
  rotate_left
  · intro w'
    go_simp
    with_reducible rfl
  rotate_left
  · simp only [Act.put, List.setIfInBounds_toArray, List.set_cons_zero, List.set_cons_succ]
    rfl
  refine pure_ (i := 19) (N := some 49) (v := ?_) (a' := ?_) #[true, true, true, true, true, true, true, true, true, true, true, true, true, true, true, true, true, true, true, true, false, false, false, false, false, false, false, false, false, false, false, false] rfl rfl (by kernel_rfl) (fun _ _ _ h => h) (Or.inl ⟨by rfl, ?_⟩) ?_ ?_
  rotate_left
  · intro w'
    go_simp
    with_reducible rfl
  rotate_left
  · simp only [Act.put, List.setIfInBounds_toArray, List.set_cons_zero, List.set_cons_succ]
    rfl
  refine pure_ (i := 20) (N := some 50) (v := ?_) (a' := ?_) #[true, true, true, true, true, true, true, true, true, true, true, true, true, true, true, true, true, true, true, true, true, false, false, false, false, false, false, false, false, false, false, false] rfl rfl (by kernel_rfl) (fun _ _ _ h => h) (Or.inl ⟨by rfl, ?_⟩) ?_ ?_
  rotate_left
  · intro w'
    go_simp
    with_reducible rfl
  rotate_left
  · simp only [Act.put, List.setIfInBounds_toArray, List.set_cons_zero, List.set_cons_succ]
    rfl
  refine pure_ (i := 21) (N := some 51) (v := ?_) (a' := ?_) #[true, true, true, true, true, true, true, true, true, true, true, true, true, true, true, true, true, true, true, true, true, true, false, false, false, false, false, false, false, false, false, false] rfl rfl (by kernel_rfl) (fun _ _ _ h => h) (Or.inl ⟨by rfl, ?_⟩) ?_ ?_
  rotate_left
  · intro w'
    go_simp
    with_reducible rfl
  rotate_left
  · simp only [Act.put, List.setIfInBounds_toArray, List.set_cons_zero, List.set_cons_succ]
    rfl
  refine pure_ (i := 22) (N := some 52) (v := ?_) (a' := ?_) #[true, true, true, true, true, true, true, true, true, true, true, true, true, true, true, true, true, true, true, true, true, true, true, false, false, false, false, false, false, false, false, false] rfl rfl (by kernel_rfl) (fun _ _ _ h => h) (Or.inl ⟨by rfl, ?_⟩) ?_ ?_
  rotate_left
  · intro w'
    go_simp
    with_reducible rfl
  rotate_left
  · simp only [Act.put, List.setIfInBounds_toArray, List.set_cons_zero, List.set_cons_succ]
    rfl
  refine pure_ (i := 23) (N := some 53) (v := ?_) (a' := ?_) #[true, true, true, true, true, true, true, true, true, true, true, true, true, true, true, true, true, true, true, true, true, true, true, true, false, false, false, false, false, false, false, false] rfl rfl (by kernel_rfl) (fun _ _ _ h => h) (Or.inl ⟨by rfl, ?_⟩) ?_ ?_
  rotate_left
  · intro w'
    go_simp
    with_reducible rfl
  rotate_left
  · simp only [Act.put, List.setIfInBounds_toArray, List.set_cons_zero, List.set_cons_succ]
    rfl
  refine pure_ (i := 24) (N := some 54) (v := ?_) (a' := ?_) #[true, true, true, true, true, true, true, true, true, true, true, true, true, true, true, true, true, true, true, true, true, true, true, true, true, false, false, false, false, false, false, false] rfl rfl (by kernel_rfl) (fun _ _ _ h => h) (Or.inl ⟨by rfl, ?_⟩) ?_ ?_
  rotate_left
  · intro w'
    go_simp
    with_reducible rfl
  rotate_left
  · simp only [Act.put, List.setIfInBounds_toArray, List.set_cons_zero, List.set_cons_succ]
    rfl
  refine one_ (i := 25) (N := some 55) #[true, true, true, true, true, true, true, true, true, true, true, true, true, true, true, true, true, true, true, true, true, true, true, true, true, true, false, false, false, false, false, false] rfl rfl (by kernel_rfl) (by decide) (fun K hK => ?_)
  refine goes_ Try.func17 (by kernel_rfl) rfl #[.int .i64 44] (by rfl) rfl rfl (by first | rfl | simp [Act.eval] | go_simp) ?_
  refine (btw_walk 44 _).mono ?_
  rintro e w12 ⟨rfl, m1, rfl⟩
  rw [show btw 44 = true from rfl]
  refine ⟨_, rfl, hK.out _ _ (pw_below_drewN hHeld m1) (fun hHeld => ?_)⟩
  clear hK K
  refine norm_ (a' := ?_) ?_ ?_
  rotate_left
  · show Act.put _ (some 55) _ = _
    simp only [Act.put, List.setIfInBounds_toArray, List.set_cons_zero, List.set_cons_succ]
    rfl
  refine pure_ (i := 26) (N := some 56) (v := ?_) (a' := ?_) #[true, true, true, true, true, true, true, true, true, true, true, true, true, true, true, true, true, true, true, true, true, true, true, true, true, true, true, false, false, false, false, false] rfl rfl (by kernel_rfl) (fun _ _ _ h => h) (Or.inl ⟨by rfl, ?_⟩) ?_ ?_
  rotate_left
  · intro w'
    go_simp
    with_reducible rfl
  rotate_left
  · simp only [Act.put, List.setIfInBounds_toArray, List.set_cons_zero, List.set_cons_succ]
    rfl
  refine pure_ (i := 27) (N := some 57) (v := ?_) (a' := ?_) #[true, true, true, true, true, true, true, true, true, true, true, true, true, true, true, true, true, true, true, true, true, true, true, true, true, true, true, true, false, false, false, false] rfl rfl (by kernel_rfl) (fun _ _ _ h => h) (Or.inl ⟨by rfl, ?_⟩) ?_ ?_
  rotate_left
  · intro w'
    go_simp
    with_reducible rfl
  rotate_left
  · simp only [Act.put, List.setIfInBounds_toArray, List.set_cons_zero, List.set_cons_succ]
    rfl
  refine one_ (i := 28) (N := some 58) #[true, true, true, true, true, true, true, true, true, true, true, true, true, true, true, true, true, true, true, true, true, true, true, true, true, true, true, true, true, false, false, false] rfl rfl (by kernel_rfl) (by decide) (fun K hK => ?_)
  refine goes_ Try.func17 (by kernel_rfl) rfl #[.int .i64 17] (by rfl) rfl rfl (by first | rfl | simp [Act.eval] | go_simp) ?_
  refine (btw_walk 17 _).mono ?_
  rintro e w12 ⟨rfl, m1, rfl⟩
  rw [show btw 17 = false from rfl]
  refine ⟨_, rfl, hK.out _ _ (pw_below_drewN hHeld m1) (fun hHeld => ?_)⟩
  clear hK K
  refine norm_ (a' := ?_) ?_ ?_
  rotate_left
  · show Act.put _ (some 58) _ = _
    simp only [Act.put, List.setIfInBounds_toArray, List.set_cons_zero, List.set_cons_succ]
    rfl
  refine pure_ (i := 29) (N := some 59) (v := ?_) (a' := ?_) #[true, true, true, true, true, true, true, true, true, true, true, true, true, true, true, true, true, true, true, true, true, true, true, true, true, true, true, true, true, true, false, false] rfl rfl (by kernel_rfl) (fun _ _ _ h => h) (Or.inl ⟨by rfl, ?_⟩) ?_ ?_
  rotate_left
  · intro w'
    go_simp
    with_reducible rfl
  rotate_left
  · simp only [Act.put, List.setIfInBounds_toArray, List.set_cons_zero, List.set_cons_succ]
    rfl
  refine pure_ (i := 30) (N := some 60) (v := ?_) (a' := ?_) #[true, true, true, true, true, true, true, true, true, true, true, true, true, true, true, true, true, true, true, true, true, true, true, true, true, true, true, true, true, true, true, false] rfl rfl (by kernel_rfl) (fun _ _ _ h => h) (Or.inl ⟨by rfl, ?_⟩) ?_ ?_
  rotate_left
  · intro w'
    go_simp
    with_reducible rfl
  rotate_left
  · simp only [Act.put, List.setIfInBounds_toArray, List.set_cons_zero, List.set_cons_succ]
    rfl
  refine pure_ (i := 31) (N := some 0) (v := ?_) (a' := ?_) #[true, true, true, true, true, true, true, true, true, true, true, true, true, true, true, true, true, true, true, true, true, true, true, true, true, true, true, true, true, true, true, true] rfl rfl (by kernel_rfl) (fun _ _ _ h => h) (Or.inl ⟨by rfl, ?_⟩) ?_ ?_
  rotate_left
  · intro w'
    go_simp
    with_reducible rfl
  rotate_left
  · simp only [Act.put, List.setIfInBounds_toArray, List.set_cons_zero, List.set_cons_succ]
    rfl
  refine done_ (by kernel_rfl) ?_
  go_wp2_with (fail)
  go_ret
  exact ⟨rfl, HW9.out.trans (hHeld.mono HW9.out.size)⟩
end Go.Proofs.Ytpodidgdlcfaeaa.Ip6

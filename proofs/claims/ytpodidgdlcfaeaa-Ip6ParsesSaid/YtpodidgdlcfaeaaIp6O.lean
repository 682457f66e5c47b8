/- redoubtref04.Bytes: the head's region. -/
import Derived.Test.YtpodidgdlcfaeaaIp6N
import Derived.Test.YtpodidgdlcfaeaaEvents
namespace Go.Proofs.Ytpodidgdlcfaeaa.Ip6
open Go.RowKit Go.Proofs.YtpodidgdlcfaeaaW.PrintWords Go.Proofs.YtpodidgdlcfaeaaW.PrintLast Go.Proofs.YtpodidgdlcfaeaaW.PrintMore Go.Proofs.Ytpodidgdlcfaeaa.PIp6Lays
open Go.Proofs.Ytpodidgdlcfaeaa Go.Proofs.Ytpodidgdlcfaeaa.Events
set_option linter.unusedVariables false
set_option linter.unusedSimpArgs false
theorem four_f {cls lab : Int} (h1 : 0 ≤ cls ∧ cls ≤ 255) (h2 : 0 ≤ lab ∧ lab ≤ 1048575) : redoubtref01_Four.f (1610612736 + 1048576 * cls + lab) = some [96 + cls / 16, cls % 16 * 16 + lab / 65536, lab / 256 % 256, lab % 256] := by
  unfold redoubtref01_Four.f
  have t1 : Int.tdiv (1610612736 + 1048576 * cls + lab) 16777216 = 96 + cls / 16 := by rw [Int.tdiv_eq_ediv_of_nonneg (by omega)]; omega
  have t2 : Int.tdiv (1610612736 + 1048576 * cls + lab) 65536 = 24576 + 16 * cls + lab / 65536 := by rw [Int.tdiv_eq_ediv_of_nonneg (by omega)]; omega
  have t3 : Int.tdiv (1610612736 + 1048576 * cls + lab) 256 = 6291456 + 4096 * cls + lab / 256 := by rw [Int.tdiv_eq_ediv_of_nonneg (by omega)]; omega
  rw [t1, t2, t3, IntWalk.wrap64_in _ (by omega), IntWalk.wrap64_in _ (by omega), IntWalk.wrap64_in _ (by omega)]
  rw [Int.tmod_eq_emod_of_nonneg (by omega), Int.tmod_eq_emod_of_nonneg (by omega), Int.tmod_eq_emod_of_nonneg (by omega)]
  congr 1
  simp only [List.cons.injEq, and_true]
  omega
theorem two_f {M : Nat} (h : M ≤ 65535) : redoubtref01_Two.f (M : Int) = some [(M : Int) / 256, (M : Int) % 256] := by
  unfold redoubtref01_Two.f
  have t1 : Int.tdiv (M : Int) 256 = (M : Int) / 256 := by rw [Int.tdiv_eq_ediv_of_nonneg (by omega)]
  rw [t1, IntWalk.wrap64_in _ (by omega), Int.tmod_eq_emod_of_nonneg (by omega)]
  congr 1
  simp only [List.cons.injEq, and_true]
  omega
theorem kind_f (p : Pk) (h : checkE p = 0) (i : Nat) (hi : i ≤ p.ex.length) : redoubtref04_kind.f p.cls p.lab p.hop p.src p.dst p.ex p.nxt p.dat (i : Int) = some (rd (kinds p.ex ++ [p.nxt]) (i : Int)) := by
  have hb := rd_kinds_byte p h i
  unfold redoubtref04_kind.f
  have er : rd_T43 p.ex (i : Int) = p.ex.getD i z43 := by unfold rd_T43; rw [Int.toNat_natCast]
  by_cases hl : i < p.ex.length
  · rw [if_pos (by omega), if_pos (by omega), er]
    have e : rd (kinds p.ex ++ [p.nxt]) (i : Int) = (p.ex.getD i z43).f0 := by
      unfold rd kinds
      rw [Int.toNat_natCast, List.getD_eq_getElem?_getD, List.getElem?_append_left (by simpa using hl), List.getElem?_map, List.getElem?_eq_getElem hl, List.getD_eq_getElem?_getD, List.getElem?_eq_getElem hl]
      rfl
    rw [e] at hb ⊢
    congr 1
    omega
  · rw [if_neg (by omega)]
    have e : rd (kinds p.ex ++ [p.nxt]) (i : Int) = p.nxt := by
      unfold rd kinds
      have : i = p.ex.length := by omega
      subst this
      rw [Int.toNat_natCast, List.getD_eq_getElem?_getD, List.getElem?_append_right (by simp)]
      simp
    rw [e] at hb ⊢
    congr 1
    omega
/-- What the head's region knows behind each of its operations. -/
def HV (base : Nat) (four two : List Int) (M k0 hop : Int) (src dst : ByteArray) (all : List Int) : Nat → Value → World → Prop
  | 7, v, W => Kd.R (Kd.int .u8) 5 W base (fun _ => True) v four
  | 9, v, _ => v = .int .i64 M
  | 10, v, W => Kd.R (Kd.int .u8) 5 W base (fun _ => True) v two
  | 12, v, _ => v = .int .u8 k0
  | 16, v, W => Kd.R (Kd.int .u8) 5 W base (fun _ => True) v [k0, hop]
  | 19, v, W => ∃ A c, v = .slice A src.size c ∧ src.size ≤ c ∧ Kd.C (Kd.int .u8) W A src.size (bytesOf src)
  | 22, v, W => ∃ A c, v = .slice A dst.size c ∧ dst.size ≤ c ∧ Kd.C (Kd.int .u8) W A dst.size (bytesOf dst)
  | 23, v, W => ∃ A, v = .slice A 5 5 ∧ Kd.C (Kd.slice 5 (Kd.int .u8)) W A 5 [four, two, [k0, hop], bytesOf src, bytesOf dst]
  | 24, v, W => Kd.R (Kd.int .u8) 5 W base (fun _ => True) v all
  | 25, v, W => Kd.R (Kd.int .u8) 5 W base (fun _ => True) v all
  | _, _, _ => True
theorem HV_mono {base : Nat} {four two all : List Int} {M k0 hop : Int} {src dst : ByteArray} : ∀ (i : Nat) (v : Value) (w w' : World), Below w.heap.size w w' → HV base four two M k0 hop src dst all i v w → HV base four two M k0 hop src dst all i v w' := by
  intro i v w w' hb h
  unfold HV at h ⊢
  split at h
  · exact Kd.R_below h hb
  · exact h
  · exact Kd.R_below h hb
  · exact h
  · exact Kd.R_below h hb
  · obtain ⟨A, c, e, hc, hr⟩ := h
    exact ⟨A, c, e, hc, Kd.C_below hr hb⟩
  · obtain ⟨A, c, e, hc, hr⟩ := h
    exact ⟨A, c, e, hc, Kd.C_below hr hb⟩
  · obtain ⟨A, e, hr⟩ := h
    exact ⟨A, e, Kd.C_below hr hb⟩
  · exact Kd.R_below h hb
  · exact Kd.R_below h hb
  · trivial
/-- Five rows in a block of their own. -/
theorem C_five {w : World} {g : Nat} {l0 l1 l2 l3 l4 : List Int} {A0 A1 A2 A3 A4 : Option Addr} {c0 c1 c2 c3 c4 : Nat} (hb : w.heap[g]? = some (.cells #[.slice A0 l0.length c0, .slice A1 l1.length c1, .slice A2 l2.length c2, .slice A3 l3.length c3, .slice A4 l4.length c4] 22 (0, 0)))
    (r0 : Kd.C (Kd.int .u8) w A0 l0.length l0) (r1 : Kd.C (Kd.int .u8) w A1 l1.length l1) (r2 : Kd.C (Kd.int .u8) w A2 l2.length l2) (r3 : Kd.C (Kd.int .u8) w A3 l3.length l3) (r4 : Kd.C (Kd.int .u8) w A4 l4.length l4)
    (h0 : l0.length ≤ c0) (h1 : l1.length ≤ c1) (h2 : l2.length ≤ c2) (h3 : l3.length ≤ c3) (h4 : l4.length ≤ c4) :
    Kd.C (Kd.slice 5 (Kd.int .u8)) w (some ⟨g, 0, none⟩) 5 [l0, l1, l2, l3, l4] := by
  refine ⟨rfl, by simp, fun _ => ⟨⟨g, 0, none⟩, rfl, fun j p hj => ?_⟩⟩
  have key : ∀ (A : Option Addr) (c : Nat) (l : List Int), l = p → l.length ≤ c → Kd.C (Kd.int .u8) w A l.length l → w.cell? ⟨g, j, none⟩ = some (.slice A l.length c) →
      ∃ cs, cs.length = (Kd.slice 5 (Kd.int .u8)).sz ∧ (Kd.slice 5 (Kd.int .u8)).K w p cs ∧ ∀ k u, cs[k]? = some u → w.cell? ((⟨g, 0, none⟩ : Addr).add (j * (Kd.slice 5 (Kd.int .u8)).sz + k)) = some u := by
    rintro A c l rfl hc hr hcell
    refine ⟨[.slice A l.length c], rfl, ⟨A, c, rfl, hc, hr⟩, fun k u hu => ?_⟩
    rcases k with _ | k
    · obtain rfl : _ = u := by simpa using hu
      have e : ((⟨g, 0, none⟩ : Addr).add (j * (Kd.slice 5 (Kd.int .u8)).sz + 0)) = ⟨g, j, none⟩ := by
        show ((⟨g, 0, none⟩ : Addr).add (j * 1 + 0)) = _
        unfold Addr.add
        by_cases hj0 : j = 0 <;> simp [hj0]
      rw [e]
      exact hcell
    · simp at hu
  rcases j with _ | _ | _ | _ | _ | j
  · exact key A0 c0 l0 (by simpa using hj) h0 r0 ((blk_cell hb 0).trans rfl)
  · exact key A1 c1 l1 (by simpa using hj) h1 r1 ((blk_cell hb 1).trans rfl)
  · exact key A2 c2 l2 (by simpa using hj) h2 r2 ((blk_cell hb 2).trans rfl)
  · exact key A3 c3 l3 (by simpa using hj) h3 r3 ((blk_cell hb 3).trans rfl)
  · exact key A4 c4 l4 (by simpa using hj) h4 r4 ((blk_cell hb 4).trans rfl)
  · simp at hj

end Go.Proofs.Ytpodidgdlcfaeaa.Ip6

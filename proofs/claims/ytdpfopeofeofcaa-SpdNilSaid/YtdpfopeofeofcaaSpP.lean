/- slices.Insert of one rule at the end; what the operations of the other ways run to. -/
import Derived.Test.YtdpfopeofeofcaaSpO
import Derived.Lib.AppendZerosOnto
import Derived.Lib.Overlaps
import Derived.Laws.Externs
namespace Go.Proofs.Ytdpfopeofeofcaa.Sp
open Go.RowKit Go.Proofs.YtdpfopeofeofcaaW.PrintWords Go.Proofs.YtdpfopeofeofcaaW.PrintLast Go.Proofs.YtdpfopeofeofcaaW.PrintMore Go.Proofs.Ytdpfopeofeofcaa.QSp
open Go.Proofs.Ytdpfopeofeofcaa
set_option linter.unusedVariables false
set_option linter.unusedSimpArgs false
/-- What Insert leaves. -/
def InsP (w : World) (base : Nat) (v : Value) (l' : List S35) (e : Ending) (w' : World) : Prop :=
  ∃ v', e = .returned v' ∧ OwnT w' base v' l' ∧ w.grownBy w' v.ownBlock ∧ (v'.ownBlock = v.ownBlock ∨ ∃ b, v'.ownBlock = some b ∧ w.heap.size ≤ b)
/-- One route in a block of its own. -/
theorem one_C {w : World} {vb : Nat} {x : S35} (h : w.heap[vb]? = some (.cells (enc35 x).toArray 35 (0, 0))) : Kd.C k35 w (some ⟨vb, 0, none⟩) 1 [x] :=
  ⟨rfl, by omega, fun _ => ⟨_, rfl, fun j p hj => by
    obtain ⟨rfl, rfl⟩ : j = 0 ∧ x = p := by
      cases j with
      | zero => exact ⟨rfl, by simpa using hj⟩
      | succ j => simp at hj
    refine ⟨enc35 x, rfl, k35_mk _ _, fun i u hu => ?_⟩
    rw [Nat.zero_mul, Nat.zero_add, add_plain, blk_cell h]
    simpa using hu⟩⟩
set_option maxHeartbeats 1600000 in
set_option maxRecDepth 100000 in
theorem insert_end (base vb : Nat) (A : Option Addr) (c : Nat) (l : List S35) (x : S35) (w : World) (h : OwnT w base (.slice A l.length c) l) (hv : w.heap[vb]? = some (.cells (enc35 x).toArray 35 (0, 0))) (hlim : l.length ≤ 1000) (hbase : base ≤ w.heap.size) :
    Calls Try.prog 18 #[.slice A l.length c, .int .i64 l.length, .slice (some ⟨vb, 0, none⟩) 1 1] w (InsP w base (.slice A l.length c) (l ++ [x])) := by
  have HO := Aside0.mk (R_of_own h)
  have HC := Aside0.mk (one_C hv)
  have HL := Aside0.mk hlim
  have HB := Aside0.mk hbase
  have hnc : l.length ≤ c := (Kd.R_reads' (R_of_own h)).2.1
  clear h hv hbase
  obtain ⟨n, hn⟩ : ∃ n, l.length = n := ⟨_, rfl⟩
  have HN := Aside0.mk hn
  rw [hn] at hlim hnc HO ⊢
  clear hn
  have hcc : (n : Int) ≤ (c : Int) := by omega
  by_cases hcn : c = n
  · obtain rfl : n = c := hcn.symm
    clear hcc hnc
    go_enter Try.func18, Try.ntmps18
    go_wp2_with (first | ((with_reducible refine gate_builtin (b := .append) (xs := #[.tmp 23, .tmp 24]) rfl ?_); at_builtin; refine Kd.R_append_rows k35 (Rr := k35.K w) (w0 := w) base rfl (.tmp 23) (.tmp 24) 41 35 (.agg #[.int .i64 0, .string ByteArray.empty, .string ByteArray.empty, .string ByteArray.empty, .string ByteArray.empty, .int .i64 0, .int .i64 0, .int .i64 0, .int .i64 0, .int .i64 0, .bool false, .bool false, .int .i64 0, .bool false, .string ByteArray.empty, .string ByteArray.empty]) 168 rfl Try.underlying41 info35 rfl (by decide) (by decide) (.slice A n n) l [x] (some ⟨vb, 0, none⟩) 1 1 (fun _ => True) (fun _ => False) rfl rfl HO.out HC.out (fun _ _ h => by rw [k35_open h]; exact k35_mkM _ _ _ _) (fun _ h => h.elim) (fun _ _ => trivial) (Below.refl _ _ |>.mono HB.out) HB.out ?aL ?_; (case aL => have := HL.out; simp; omega); intro v6 w6 ho hb hg hat; have HO6 := Aside0.mk ho; have HG6 := Aside0.mk hg; have HA6 := Aside0.mk hat; clear ho hb hg hat))
    go_ret
    exact ⟨_, rfl, own_of_R HO6.out, HG6.out, HA6.out⟩
  · have hcn' : ¬ (n = c) := fun h => hcn h.symm
    go_enter Try.func18, Try.ntmps18
    go_wp2_with (first | ((with_reducible refine gate_builtin (b := .append) (xs := #[.tmp 23, .tmp 24]) rfl ?_); at_builtin; refine Kd.R_append_rows k35 (Rr := k35.K w) (w0 := w) base rfl (.tmp 23) (.tmp 24) 41 35 (.agg #[.int .i64 0, .string ByteArray.empty, .string ByteArray.empty, .string ByteArray.empty, .string ByteArray.empty, .int .i64 0, .int .i64 0, .int .i64 0, .int .i64 0, .int .i64 0, .bool false, .bool false, .int .i64 0, .bool false, .string ByteArray.empty, .string ByteArray.empty]) 168 rfl Try.underlying41 info35 rfl (by decide) (by decide) (.slice A n c) l [x] (some ⟨vb, 0, none⟩) 1 1 (fun _ => True) (fun _ => False) rfl rfl HO.out HC.out (fun _ _ h => by rw [k35_open h]; exact k35_mkM _ _ _ _) (fun _ h => h.elim) (fun _ _ => trivial) (Below.refl _ _ |>.mono HB.out) HB.out ?aL ?_; (case aL => have := HL.out; simp; omega); intro v6 w6 ho hb hg hat; have HO6 := Aside0.mk ho; have HG6 := Aside0.mk hg; have HA6 := Aside0.mk hat; clear ho hb hg hat))
    go_ret
    exact ⟨_, rfl, own_of_R HO6.out, HG6.out, HA6.out⟩
end Go.Proofs.Ytdpfopeofeofcaa.Sp

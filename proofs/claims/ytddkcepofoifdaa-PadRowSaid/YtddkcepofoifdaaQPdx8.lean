-- Written by a program of this session (wip/tools/pp.py) out of what the kit's print.py prints over this seat's translation. Not trusted: Lean checks it.
import Derived.Lib.SlBytesConst
import Derived.Test.YtddkcepofoifdaaQPdx6
import Derived.Test.YtddkcepofoifdaaQPdx0
import Derived.Test.YtddkcepofoifdaaQPdx2
import Derived.Test.YtddkcepofoifdaaQPdx4
import Derived.Test.YtddkcepofoifdaaQPdx6
namespace Go.Proofs.Ytddkcepofoifdaa.QPd
open Go.RowKit Go.Proofs.YtddkcepofoifdaaW.PrintWords Go.Proofs.YtddkcepofoifdaaW.PrintLast Go.Proofs.YtddkcepofoifdaaW.PrintMore
attribute [local go_sem] max2_int min2_int max_two min_two max_three min_three max_four min_four   -- for this text's walks alone
set_option linter.unusedVariables false
set_option linter.unusedSimpArgs false

/-! ### redoubtlaw12_awake: function 17 -/
def redoubtlaw12_awake.f (k : Nat)  : Option (Bool) := (pad_Seal.f k (([97, 98, 99] : List Int)) 6).bind fun bt167 => ((pad_Open.f k bt167.1).bind fun bt171 => ((pad_Open.f k (([1, 3, 2, 6] : List Int))).bind fun bt179 => (if (strOfNums bt167.1).toList = ([97, 98, 99, 1, 2, 3, 3, 6] : List UInt8) then (if bt167.2 = 0 then (if (strOfNums bt171.1).toList = ([97, 98, 99] : List UInt8) then (if bt171.2.1 = 6 then (if bt171.2.2 = bt167.2 then (if bt179.2.2 = 130 then ((pad_Length.f 3).bind fun t184 => (some (t184 == 8))) else (some false)) else (some false)) else (some false)) else (some false)) else (some false)) else (some false))))
theorem redoubtlaw12_awake.mono : ∀ k, LeO (redoubtlaw12_awake.f k ) (redoubtlaw12_awake.f (k + 1) ) := by
  intro  k
  unfold redoubtlaw12_awake.f
  repeat' first
      | (with_reducible exact pad_Open.mono _ _)
      | (with_reducible exact pad_Seal.mono _ _ _)
      | (with_reducible exact LeO.refl _)
      | (with_reducible exact LeO.none _)
      | (with_reducible refine LeO.ite ?_ ?_)
      | (with_reducible refine LeO.bind ?_ (fun _ => ?_))
      | exact pad_Open.mono _ _
      | exact pad_Seal.mono _ _ _
      | exact LeO.none _
      | refine LeO.ite ?_ ?_
      | refine LeO.bind ?_ (fun _ => ?_)
theorem lit_reads (w : World) (k : IntKind) (e : TypeId) (fr : Nat × Nat) (xs : List Int) (hx : xs.length ≤ 9223372036854775807) : Kd.C (Kd.int k) (w.alloc (.cells (nums k xs).toArray e fr)) (some ⟨w.heap.size, 0, none⟩) xs.length xs := by
  refine Kd.C_of_reads (d := (0 : Int)) (h1 := fun _ => rfl) ⟨rfl, hx, fun _ => ⟨_, rfl, fun j hj => ?_⟩⟩
  rw [add_plain]
  have hb : (w.alloc (.cells (nums k xs).toArray e fr)).heap[w.heap.size]? = some (.cells (nums k xs).toArray e fr) := heap_alloc_new w _
  rw [cell_of_row _ _ _ _ _ _ hb]
  rw [List.getElem?_toArray]
  simp [nums, List.getD_eq_getElem?_getD, List.getElem?_map, List.getElem?_eq_getElem hj]
theorem seal_abc (w : World) : Calls Try.prog 13 #[.slice (some ⟨w.heap.size, 0, none⟩) 3 3, .int .i64 6] (w.alloc (.cells #[.int .u8 97, .int .u8 98, .int .u8 99] 5 (3, 4))) fun e w' =>
    ∃ v : Value, e = .returned (.tuple #[v, .int .i64 0]) ∧ Kd.R (Kd.int .u8) 5 w' (w.heap.size + 1) (fun _ => True) v [97, 98, 99, 1, 2, 3, 3, 6] ∧ Below (w.heap.size + 1) (w.alloc (.cells #[.int .u8 97, .int .u8 98, .int .u8 99] 5 (3, 4))) w' := by
  refine (pad_Seal.calls 9 (some ⟨w.heap.size, 0, none⟩) 3 [97, 98, 99] 6 [97, 98, 99, 1, 2, 3, 3, 6] 0 _ (lit_reads w .u8 5 (3, 4) [97, 98, 99] (by decide)) (by decide) (by decide +kernel)).mono ?_
  rintro e w' ⟨v, he, hr, hb⟩
  have hsz : (w.alloc (.cells (nums .u8 [97, 98, 99]).toArray 5 (3, 4))).heap.size = w.heap.size + 1 := by simp
  rw [hsz] at hr hb
  exact ⟨v, he, hr, hb⟩
theorem open_R {w : World} {base : Nat} {ok : Nat → Prop} {A : Option Addr} {n c : Nat} {l : List Int} (h : Kd.R (Kd.int .u8) 5 w base ok (.slice A n c) l) (r1 : List Int) (r2 r3 : Int) (hf : pad_Open.f 0 l = some (r1, r2, r3)) :
    Calls Try.prog 15 #[.slice A n c] w fun e w' => ∃ v0_ : Value, e = .returned (.tuple #[v0_, .int .i64 r2, .int .i64 r3]) ∧ Kd.R (Kd.int .u8) 5 w' w.heap.size (fun k_ => (w.heap.size ≤ k_)) v0_ r1 ∧ Below w.heap.size w w' := by
  obtain ⟨hn, hc, hr⟩ := Kd.R_reads' h
  subst hn
  exact pad_Open.calls 0 ok A c l r1 r2 r3 w (Kd.R_V h) hf
theorem open_1326 (w : World) : Calls Try.prog 15 #[.slice (some ⟨w.heap.size, 0, none⟩) 4 4] (w.alloc (.cells #[.int .u8 1, .int .u8 3, .int .u8 2, .int .u8 6] 5)) fun e w' =>
    ∃ v : Value, e = .returned (.tuple #[v, .int .i64 0, .int .i64 130]) ∧ Below (w.heap.size + 1) (w.alloc (.cells #[.int .u8 1, .int .u8 3, .int .u8 2, .int .u8 6] 5)) w' := by
  have hR : Kd.R (Kd.int .u8) 5 (w.alloc (.cells (nums .u8 [1, 3, 2, 6]).toArray 5)) w.heap.size (fun _ => True) (.slice (some ⟨w.heap.size, 0, none⟩) 4 4) [1, 3, 2, 6] := Kd.R_of_own (own_lit w w.heap.size 5 .u8 [1, 3, 2, 6] (Nat.le_refl _) (by simp)) (fun _ _ => trivial)
  refine (open_R hR [] 0 130 (by decide +kernel)).mono ?_
  rintro e w' ⟨v, he, hr, hb⟩
  have hsz : (w.alloc (.cells (nums .u8 [1, 3, 2, 6]).toArray 5)).heap.size = w.heap.size + 1 := by simp
  rw [hsz] at hb
  exact ⟨v, he, hb⟩
set_option maxHeartbeats 2000000 in
set_option maxRecDepth 100000 in
theorem redoubtlaw12_awake.calls (k : Nat)  (r : Bool) (w : World) (h : redoubtlaw12_awake.f k  = some r) (hr_ : r = true) :
    Calls Try.prog 17 #[] w fun e w' => e = .returned (.bool r) ∧ Below w.heap.size w w' := by
  have HRT := Aside0.mk hr_
  clear hr_
  clear h
  have hr := HRT.out
  clear HRT
  subst hr
  have kc := fun (w : World) (C : Array Value) (n c : Nat) => Lib.run_convert_bytes_const (P := Try.prog) w 22 5 C n c Try.underlying22 Try.underlying5
  go_enter Try.func17, Try.ntmps17
  go_wp2_with (first | (go_at_call 13; refine (seal_abc _).mono ?_; rintro e w1 ⟨v, rfl, ho, hb⟩; have HO1 := Aside0.mk ho; have HB1 := Aside0.mk hb; clear ho hb; obtain ⟨A1, c1, eo⟩ := Kd.R_slice HO1.out; subst eo))
  refine (open_R HO1.out [97, 98, 99] 6 0 (by decide +kernel)).mono ?_
  rintro e w2 ⟨v2, rfl, ho, hb⟩
  have HO2 := Aside0.mk ho
  have HB2 := Aside0.mk hb
  clear ho hb
  obtain ⟨A2, c2, eo⟩ := Kd.R_slice HO2.out
  subst eo
  have HO1' := Aside0.mk (Kd.R_below HO1.out HB2.out)
  clear HO1
  go_wp2_with fail
  refine (open_1326 w2).mono ?_
  rintro e w3 ⟨v3, rfl, hb⟩
  have HB3 := Aside0.mk (show Below w2.heap.size w2 w3 from (below_alloc (Below.refl _ _) _).trans (hb.mono (by omega)))
  clear hb
  have hv1 : Sem.run Try.prog (convert 22 9 (.slice A1 8 c1)) w3 = .ok (.string (strOfNums [97, 98, 99, 1, 2, 3, 3, 6])) w3 := own_string (P := Try.prog) Try.underlying22 Try.underlying5 Try.underlying9 (Kd.own_of_R (Kd.R_below HO1'.out HB3.out))
  have hv2 : Sem.run Try.prog (convert 22 9 (.slice A2 3 c2)) w3 = .ok (.string (strOfNums [97, 98, 99])) w3 := own_string (P := Try.prog) Try.underlying22 Try.underlying5 Try.underlying9 (Kd.own_of_R (Kd.R_below HO2.out HB3.out))
  have hs1 : ((strOfNums [97, 98, 99, 1, 2, 3, 3, 6]).toList == ([97, 98, 99, 1, 2, 3, 3, 6] : List UInt8)) = true := by decide +kernel
  have hs2 : ((strOfNums [97, 98, 99]).toList == ([97, 98, 99] : List UInt8)) = true := by decide +kernel
  go_wp2_with (go_at_call 18; refine (pad_Length.calls 3 8 _ (by decide +kernel)).mono ?_; rintro e w4 ⟨rfl, hd⟩; obtain ⟨n4, rfl⟩ := hd.out)
  go_ret
  exact ⟨rfl, pw_below_drewN (below_step (below_step ((below_alloc (Below.refl _ _) _).trans (HB1.out.mono (by omega))) HB2.out) HB3.out) _⟩

end Go.Proofs.Ytddkcepofoifdaa.QPd

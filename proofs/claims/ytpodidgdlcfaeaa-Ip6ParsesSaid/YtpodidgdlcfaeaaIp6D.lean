/- ip6.Bytes: a packet's bytes. -/
import Derived.Test.YtpodidgdlcfaeaaIp6C
namespace Go.Proofs.Ytpodidgdlcfaeaa.Ip6
open Go.RowKit Go.Proofs.YtpodidgdlcfaeaaW.PrintWords Go.Proofs.YtpodidgdlcfaeaaW.PrintLast Go.Proofs.YtpodidgdlcfaeaaW.PrintMore Go.Proofs.Ytpodidgdlcfaeaa.PIp6Lays
set_option linter.unusedVariables false
set_option linter.unusedSimpArgs false
theorem info5 : (Try.prog.info? 5).map (fun i => (i.zero, i.size, i.bytes)) = some (some (.int .u8 0), 1, 1) := by kernel_rfl
/-- A row of bytes of the call's own. -/
abbrev Own (w : World) (base : Nat) (v : Value) (xs : List Int) : Prop := w.ownsRow base 5 1 v xs.length (nums .u8 xs)
theorem own_none (v : Value) : v.ownBlock = none ∨ v.ownBlock ≠ none := by cases v.ownBlock <;> simp
def kinds (l : List S43) : List Int := l.map (·.f0)
theorem kinds_take (l : List S43) (j : Nat) (hj : j < l.length) : kinds (l.take (j + 1)) = kinds (l.take j) ++ [(l.getD j z43).f0] := by
  unfold kinds
  rw [List.take_add_one, List.getElem?_eq_getElem hj, List.getD_eq_getElem?_getD, List.getElem?_eq_getElem hj, List.map_append]
  rfl
theorem wok_btw : ∀ (i : Nat) (l : List S43), wok i l = true → ∀ j, j < l.length → btw (l.getD j z43).f0 = true
  | _, [], _, j, hj => absurd hj (by simp)
  | i, x :: l, h, j, hj => by
    simp only [wok, Bool.and_eq_true] at h
    cases j with
    | zero =>
      have := h.1
      unfold xok at this
      simp only [Bool.and_eq_true] at this
      exact this.1.1.1
    | succ j => simpa using wok_btw (i + 1) l h.2 j (by simpa using hj)
theorem btw_u8 {k : Int} (h : btw k = true) : k % 256 = k := by
  unfold btw at h
  have := of_decide_eq_true h
  omega
theorem headOk_of {p : Pk} (h : checkE p = 0) : headOk p := by
  unfold checkE at h
  by_cases hh : headOk p ∧ wok 0 p.ex = true
  · exact hh.1
  · rw [if_neg hh] at h; exact absurd h (by decide)
theorem wok_of {p : Pk} (h : checkE p = 0) : wok 0 p.ex = true := by
  unfold checkE at h
  by_cases hh : headOk p ∧ wok 0 p.ex = true
  · exact hh.2
  · rw [if_neg hh] at h; exact absurd h (by decide)
theorem sum_of {p : Pk} (h : checkE p = 0) : sumx p.ex + p.dat.length ≤ 65535 := by
  unfold checkE at h
  by_cases hh : headOk p ∧ wok 0 p.ex = true
  · rw [if_pos hh] at h
    by_cases hb : 65535 < sumx p.ex + p.dat.length
    · rw [if_pos hb] at h; exact absurd h (by decide)
    · omega
  · rw [if_neg hh] at h; exact absurd h (by decide)
theorem make_cap (C : Nat) (hC : C ≤ 1000000) (W : World) : (Instr.makeSlice 22 (.int .i64 0) (.int .i64 (C : Int))).run Try.prog W = .ok (.slice (some ⟨W.heap.size, 0, none⟩) 0 C) (W.alloc (.cells (madeCells #[.int .u8 0] C) 5)) := by
  obtain ⟨i, hi, hz, hsz, hb⟩ := info_parts info5
  have := run_make (P := Try.prog) W 22 5 i (.int .u8 0) Try.underlying22 hi hz .i64 .i64 0 C (by omega) (by omega) (by rw [hb]; omega) (by omega)
  rw [this]
  simp only [Int.toNat_natCast, hsz, Nat.mul_one]
  rfl
theorem make_event {P : Program} {ops : Array Oper} {rest : List Oper} {o : Oper} {a : Act} {Q : Exit → Act → World → Prop} {W : World} (hgd : o.guard = none) {N : Tmp} (_hd : o.dst = some N) {cs : Array Value} {t : TypeId} {n c : Nat}
    (hrun : (execOp a.eval o).run P W = .ok (.value (.slice (some ⟨W.heap.size, 0, none⟩) n c)) (W.alloc (.cells cs t (0, 0))))
    (h : ∀ g, g = W.heap.size → ∀ w1, w1.heap[g]? = some (.cells cs t (0, 0)) → Below W.heap.size W w1 → wpList P ops Q rest (a.put o.dst (.slice (some ⟨g, 0, none⟩) n c)) w1) : wpList P ops Q (o :: rest) a W :=
  Kd.event_run hgd hrun (h _ rfl _ (blk_new W _) (below_alloc (Below.refl _ _) _))
theorem own_cap {w : World} {base g C : Nat} (hb : base ≤ g) (hC : C ≤ 1000000) (h : w.heap[g]? = some (.cells (madeCells #[.int .u8 0] C) 5 (0, 0))) : Own w base (.slice (some ⟨g, 0, none⟩) 0 C) [] :=
  ⟨rfl, Or.inr ⟨g, C, _, rfl, hb, h, Nat.zero_le _, by unfold maxLen; omega, by simp [madeCells], by simp [nums]⟩⟩
/-- The numbers of a head. -/
theorem head_nums {cls lab hop nxt : Int} {M : Nat} (h : inR cls lab hop nxt) (hM : M ≤ 65535) : ∃ b0 b1 b2 b3 b4 b5 : Int,
    (b0 = 96 + cls / 16 ∧ b1 = cls % 16 * 16 + lab / 65536 ∧ b2 = lab / 256 % 256 ∧ b3 = lab % 256 ∧ b4 = (M : Int) / 256 ∧ b5 = (M : Int) % 256) ∧
    IntKind.u8.wrap (cls / 16) = cls / 16 ∧ bits .or .u8 96 (cls / 16) = b0 ∧ IntKind.i64.wrap (cls * 16) = cls * 16 ∧ bits .or .i64 (cls * 16) (lab / 65536) = cls * 16 + lab / 65536 ∧ IntKind.u8.wrap (cls * 16 + lab / 65536) = b1 ∧
    IntKind.u8.wrap (lab / 256) = b2 ∧ IntKind.u8.wrap lab = b3 ∧ IntKind.u8.wrap ((M : Int) / 256) = b4 ∧ IntKind.u8.wrap (M : Int) = b5 ∧ IntKind.u8.wrap hop = hop := by
  obtain ⟨⟨c0, c1⟩, ⟨d0, d1⟩, _, l0, l1⟩ := h
  refine ⟨_, _, _, _, _, _, ⟨rfl, rfl, rfl, rfl, rfl, rfl⟩, ?_, ?_, ?_, ?_, ?_, ?_, ?_, ?_, ?_, ?_⟩
  · rw [IntKind.wrap_u8]; omega
  · exact bits_join .u8 8 (by decide) wraps_u8 4 96 (cls / 16) (by decide) (by decide) (by decide) (by omega) (by omega) (by omega)
  · rw [IntKind.wrap_i64]; omega
  · exact bits_join .i64 63 (by decide) (fun n h0 h1 => by rw [IntKind.wrap_i64]; omega) 4 (cls * 16) (lab / 65536) (by omega) (by omega) (by omega) (by omega) (by omega) (by omega)
  · rw [IntKind.wrap_u8]; omega
  · rw [IntKind.wrap_u8]
  · rw [IntKind.wrap_u8]
  · rw [IntKind.wrap_u8]; omega
  · rw [IntKind.wrap_u8]
  · rw [IntKind.wrap_u8]; omega
theorem len_num {xs : List Int} (h : xs.length ≤ 8000000) : (xs.length + 1) * 1 ≤ 140737488355328 := by omega
theorem len_num' {xs : List Int} (ys : List Int) (h : xs.length ≤ 8000000) (h2 : ys.length ≤ 10) : ((xs ++ ys).length + 1) * 1 ≤ 140737488355328 := by rw [List.length_append]; omega
theorem len_str {xs : List Int} {s : ByteArray} (ys : List Int) (h : xs.length ≤ 8000000) (h2 : ys.length ≤ 10) (hs : s.size ≤ 4000) : (xs ++ ys).length + s.size ≤ 140737488355328 := by rw [List.length_append]; omega
def headE (p : Pk) : List Int := [96 + p.cls / 16, p.cls % 16 * 16 + p.lab / 65536, p.lab / 256 % 256, p.lab % 256, ((sumx p.ex + p.dat.length : Nat) : Int) / 256, ((sumx p.ex + p.dat.length : Nat) : Int) % 256, rd (kinds p.ex ++ [p.nxt]) 0, p.hop]
theorem len_row {xs ys : List Int} (h : xs.length ≤ 8000000) (h2 : ys.length ≤ 100000) : (xs.length + ys.length) * 1 ≤ 140737488355328 := by omega
theorem q_nums {S Q : Nat} (h8 : (S + 2) % 8 = 0) (hb : S + 2 ≤ 2048) (hQ : (S + 2) / 8 - 1 = Q) : wrap64 ((S : Int) + 2) = ((S : Int) + 2) ∧ Int.tdiv ((S : Int) + 2) 8 = (Q : Int) + 1 ∧ wrap64 ((Q : Int) + 1) = (Q : Int) + 1 ∧ wrap64 ((Q : Int) + 1 - 1) = (Q : Int) ∧ IntKind.u8.wrap (Q : Int) = (Q : Int) ∧ (Q : Int) % 256 = (Q : Int) ∧ wrap64 (Q : Int) = (Q : Int) := by
  refine ⟨IntWalk.wrap64_in _ (by omega), ?_, IntWalk.wrap64_in _ (by omega), ?_, ?_, by omega, IntWalk.wrap64_in _ (by omega)⟩
  · rw [Int.tdiv_eq_ediv_of_nonneg (by omega)]; omega
  · rw [IntWalk.wrap64_in _ (by omega)]; omega
  · rw [IntKind.wrap_u8]; omega
theorem own_ne_q {w : World} {base g : Nat} {v : Value} {xs : List Int} {cs : Array Value} (h : Own w base v xs) (hb : w.heap[g]? = some (.cells cs 43 (0, 0))) (e : some g = v.ownBlock) : False := own_ne h hb (by decide) e
/-- What stands for a header between, what follows it ahead. -/
def piece (ex : List S43) (nxt : Int) (i : Nat) : List Int := rd (kinds ex ++ [nxt]) ((i + 1 : Nat) : Int) :: ((if (ex.getD i z43).f0 = 44 then [] else [(((ex.getD i z43).f1.size + 2) / 8 - 1 : Nat)]).map (fun n : Nat => (n : Int)) ++ bytesOf (ex.getD i z43).f1)
def pre (ex : List S43) (nxt : Int) (j : Nat) : List Int := (List.range j).flatMap (piece ex nxt)
/-- A packet's bytes. -/
def bytesE (p : Pk) : List Int := headE p ++ bytesOf p.src ++ bytesOf p.dst ++ pre p.ex p.nxt p.ex.length ++ p.dat
theorem bytes_eq {p : Pk} {b0 b1 b2 b3 b4 b5 k0 : Int} {M : Nat} {XS : List Int} (h : b0 = 96 + p.cls / 16 ∧ b1 = p.cls % 16 * 16 + p.lab / 65536 ∧ b2 = p.lab / 256 % 256 ∧ b3 = p.lab % 256 ∧ b4 = (M : Int) / 256 ∧ b5 = (M : Int) % 256)
    (hM : sumx p.ex + p.dat.length = M) (hk : rd (kinds p.ex ++ [p.nxt]) 0 = k0) (hX : [b0, b1, b2, b3, b4, b5, k0, p.hop] ++ bytesOf p.src ++ bytesOf p.dst ++ pre p.ex p.nxt p.ex.length = XS) : bytesE p = XS ++ p.dat := by
  obtain ⟨rfl, rfl, rfl, rfl, rfl, rfl⟩ := h
  unfold bytesE headE
  rw [hM, hk, hX]
theorem pre_succ (ex : List S43) (nxt : Int) (j : Nat) : pre ex nxt (j + 1) = pre ex nxt j ++ piece ex nxt j := by simp [pre, List.range_succ]
theorem pre_len (ex : List S43) (nxt : Int) (h : ∀ x ∈ ex, x.f1.size ≤ 4000) : ∀ j, j ≤ ex.length → (pre ex nxt j).length ≤ 4002 * j := by
  intro j
  induction j with
  | zero => simp [pre]
  | succ j ih =>
    intro hj
    have hm : ex.getD j z43 ∈ ex := by
      rw [List.getD_eq_getElem?_getD, List.getElem?_eq_getElem (by omega)]
      exact List.getElem_mem (by omega)
    have := h _ hm
    have := ih (by omega)
    rw [pre_succ, List.length_append]
    have hp : (piece ex nxt j).length ≤ 2 + (ex.getD j z43).f1.size := by
      unfold piece
      simp only [List.length_cons, List.length_append, List.length_map, bytesOf_length]
      split <;> simp <;> omega
    omega
theorem wok_xok : ∀ (i : Nat) (l : List S43), wok i l = true → ∀ j, j < l.length → xok (i + j) (l.getD j z43) = true
  | _, [], _, j, hj => absurd hj (by simp)
  | i, x :: l, h, j, hj => by
    simp only [wok, Bool.and_eq_true] at h
    cases j with
    | zero => exact h.1
    | succ j =>
      have := wok_xok (i + 1) l h.2 j (by simpa using hj)
      rw [show i + (j + 1) = i + 1 + j by omega]
      simpa using this
set_option maxHeartbeats 8000000 in
set_option maxRecDepth 100000 in
theorem bytes_walk (p : Pk) (A5 A7 : Option Addr) (c5 c7 : Nat) (hp : Small p) (w : World) (hr : PkR w p A5 c5 A7 c7) (hok : checkE p = 0) :
    Calls Try.prog 13 #[.agg (p.cells A5 c5 A7 c7)] w fun e w' => (∃ v : Value, e = .returned (.tuple #[v, .int .i64 0]) ∧ Own w' w.heap.size v (bytesE p)) ∧ Below w.heap.size w w' := by
  have MS := Aside0.mk fun (W : World) (hb : Below w.heap.size w W) => measure_walk p A5 A7 c5 c7 hp W (hr.below hb)
  have HP := Aside0.mk hp
  have HR := Aside0.mk hr
  have HOK := Aside0.mk hok
  obtain ⟨cls, lab, hop, src, dst, ex, nxt, dat⟩ := p
  show Calls Try.prog 13 #[.agg #[.int .i64 cls, .int .i64 lab, .int .i64 hop, .string src, .string dst, .slice A5 ex.length c5, .int .i64 nxt, .slice A7 dat.length c7]] w _
  have hwk : wok 0 ex = true := wok_of hok
  have HWK := Aside0.mk (wok_btw 0 ex hwk)
  clear hp hr hok hwk
  go_enter Try.func13, Try.ntmps13
  go_wp2_with (first | ((with_reducible refine gate_dst (N := 1) rfl ?_); refine box_event ?hg (N := 1) ?hd (cs := #[.int .i64 cls, .int .i64 lab, .int .i64 hop, .string src, .string dst, .slice A5 ex.length c5, .int .i64 nxt, .slice A7 dat.length c7]) (t := 26) ?hr ?_; (case hd => rfl); (case hg => rfl); (case hr => first | (go_simp; done) | (go_simp; rfl)); intro q hq w3 hbox hb3; have BK := Aside0.mk hbox; have HB3 := Aside0.mk hb3; clear hbox hb3 hq; have hq0 : w3.cell? ⟨q, 0, none⟩ = some (.int .i64 cls) := (blk_cell BK.out 0).trans rfl; have hq1 : w3.cell? ⟨q, 1, none⟩ = some (.int .i64 lab) := (blk_cell BK.out 1).trans rfl; have hq2 : w3.cell? ⟨q, 2, none⟩ = some (.int .i64 hop) := (blk_cell BK.out 2).trans rfl; have hq3 : w3.cell? ⟨q, 3, none⟩ = some (.string src) := (blk_cell BK.out 3).trans rfl; have hq4 : w3.cell? ⟨q, 4, none⟩ = some (.string dst) := (blk_cell BK.out 4).trans rfl; have hq5 : w3.cell? ⟨q, 5, none⟩ = some (.slice A5 ex.length c5) := (blk_cell BK.out 5).trans rfl; have hq6 : w3.cell? ⟨q, 6, none⟩ = some (.int .i64 nxt) := (blk_cell BK.out 6).trans rfl; have hq7 : w3.cell? ⟨q, 7, none⟩ = some (.slice A7 dat.length c7) := (blk_cell BK.out 7).trans rfl))
  refine (MS.out _ HB3.out).mono ?_
  rintro e w4 ⟨⟨n, v, rfl, hm⟩, hb⟩
  rcases hm with ⟨_, hn, rfl⟩ | ⟨h, _⟩
  case inr => exact absurd HOK.out h
  simp only at hn
  have BK4 := Aside0.mk (blk_below BK.out hb)
  have HB4 := Aside0.mk (HB3.out.trans (hb.mono HB3.out.size))
  have HQ4 := Aside0.mk (blk_lt BK4.out)
  have hs5 : w4.cell? ⟨q, 5, none⟩ = some (.slice A5 ex.length c5) := (blk_cell BK4.out 5).trans rfl
  have R5 := Aside0.mk (HR.out.below HB4.out).r5
  simp only at R5
  obtain ⟨M, hM⟩ : ∃ M, sumx ex + dat.length = M := ⟨_, rfl⟩
  rw [hM] at hn
  subst hn
  have HMM := Aside0.mk (And.intro hM (show M ≤ 65535 by rw [← hM]; exact sum_of HOK.out))
  have hlen : ex.length ≤ 1000 := HP.out.ex
  obtain ⟨L, hL⟩ : ∃ L, ex.length = L := ⟨_, rfl⟩
  have HL := Aside0.mk hL
  rw [hL] at hs5 hlen
  clear hb hq0 hq1 hq2 hq3 hq4 hq5 hq6 hq7 hM hL
  go_wp2_with (fail)
  go_loopw [6, 25] (fun kv i wr => ∃ (j : Nat) (A6 : Option Addr) (c6 : Nat), j ≤ L ∧ i = .int .i64 j ∧ kv = .slice A6 j c6 ∧ Aside0 (Own wr w4.heap.size (.slice A6 j c6) (kinds (ex.take j))) ∧ Aside0 (Below w4.heap.size w4 wr)) (fun _ i _ => L - (intOf i).toNat)
  case atStart => exact ⟨0, none, 0, by omega, rfl, rfl, Aside0.mk (own_nil _ _ _ _), Aside0.mk (Below.refl _ _)⟩
  case round =>
    obtain ⟨j, A6, c6, hj, rfl, rfl, HO, HB⟩ := hrel
    by_cases hjl : j < L
    · have hd : decide ((j : Int) < (L : Int)) = true := by simp; omega
      have hjn : j < ex.length := by rw [HL.out]; exact hjl
      obtain ⟨ad, hA, hc0', hc1'⟩ := ext_cells R5.out j hjn
      subst hA
      have hc0 := pw_cell_below HB.out hc0'
      have hc1 := pw_cell_below HB.out hc1'
      have hkt := kinds_take ex j hjn
      have hku := btw_u8 (HWK.out j hjn)
      obtain ⟨⟨k, s⟩, hx⟩ : ∃ x, ex.getD j z43 = x := ⟨_, rfl⟩
      rw [hx] at hc0 hc1 hkt hku
      have HKT := Aside0.mk hkt
      have hku' : k % 256 = k := hku
      clear hc0' hc1' hx hjn hkt hku
      have hjlen : (kinds (ex.take j)).length = j := by unfold kinds; rw [List.length_map, List.length_take]; have := HL.out; omega
      have aLH := Aside0.mk (show ((kinds (ex.take j)).length + 1) * 1 ≤ 140737488355328 by rw [hjlen]; omega)
      have elen := Aside0.mk (show (kinds (ex.take j) ++ [k]).length = j + 1 by rw [List.length_append, hjlen]; rfl)
      clear hjlen
      go_wp2_with (first | ((with_reducible refine gate_dst (N := 8) rfl ?_); refine box_event ?hg (N := 8) ?hd (cs := #[.int .i64 0, .string ByteArray.empty]) (t := 43) ?hr ?_; (case hd => rfl); (case hg => rfl); (case hr => first | (go_simp; done) | (go_simp; rfl)); intro q8 hq8 w3 hbox hb3; have BK8 := Aside0.mk hbox; have HB8 := Aside0.mk hb3; have HQ8 := Aside0.mk hq8; clear hbox hb3 hq8) | ((with_reducible refine gate_store (t := 43) (p := 8) rfl ?_); have hz0 : w3.cell? ⟨q8, 0, none⟩ = some (.int .i64 0) := (blk_cell BK8.out 0).trans rfl; have hz1 : w3.cell? ⟨q8, 1, none⟩ = some (.string ByteArray.empty) := (blk_cell BK8.out 1).trans rfl; have hf0 := blk_frozen BK8.out 0; have hf1 := blk_frozen BK8.out 1; refine store_event (t := 43) (p := 8) (v := ?vo) (w1 := (w3.setCell ⟨q8, 0, none⟩ (.int .i64 k)).setCell ⟨q8, 1, none⟩ (.string s)) ?hg ?ho ?hn ?hr ?_; (case ho => rfl); (case hg => rfl); (case hn => rfl); (case hr => first | (go_simp; done) | (go_simp; rfl)); intro w5 hw; have HX5 := Aside0.mk (show w5.heap[q8]? = some (.cells #[.int .i64 k, .string s] 43 (0, 0)) ∧ Below wr.heap.size wr w5 from by rw [hw]; exact ext_stored BK8.out HB8.out (by rw [HQ8.out]; exact Nat.le_refl _) k s); clear hw hz0 hz1 hf0 hf1; have hq0 : w5.cell? ⟨q8, 0, none⟩ = some (.int .i64 k) := (blk_cell HX5.out.1 0).trans rfl; have hq1 : w5.cell? ⟨q8, 1, none⟩ = some (.string s) := (blk_cell HX5.out.1 1).trans rfl; have HB5 := Aside0.mk (HB.out.trans (HX5.out.2.mono HB.out.size)); have HO5 := Aside0.mk (own_other HO.out (grown_of_below HX5.out.2 none) (own_none _))) | ((with_reducible refine gate_builtin (b := .append) (xs := #[.tmp 29, .tmp 33]) rfl ?_); at_builtin; refine print_append_num (w0 := w4) w4.heap.size rfl (.tmp 29) (.tmp 33) 22 5 .u8 1 rfl Try.underlying22 info5 (by decide) (.slice A6 j c6) (kinds (ex.take j)) (k) rfl rfl ?aO ?aB ?aS ?aL ?_; (case aO => exact HO5.out); (case aB => exact HB5.out); (case aS => exact (HB5.out).size); (case aL => exact aLH.out); intro v6 w6 ho hb hg hat; have HO6 := Aside0.mk ho; have HB6 := Aside0.mk hb; clear ho hb hg hat))
      obtain ⟨A9, c9, hv6⟩ := own_slice HO6.out
      rw [elen.out] at hv6
      have HV6 := Aside0.mk hv6
      clear hv6
      go_round
      case rel => exact ⟨j + 1, A9, c9, hjl, by go_num, HV6.out, Aside0.mk (by rw [← HV6.out, HKT.out]; exact HO6.out), HB6⟩
      case measure => simp [intOf]; omega
    · have hd : decide ((j : Int) < (L : Int)) = false := by simp; omega
      have htk : ex.take j = ex := List.take_of_length_le (by have := HL.out; omega)
      rw [htk] at HO
      have hs6 : wr.cell? ⟨q, 6, none⟩ = some (.int .i64 nxt) := pw_cell_below HB.out ((blk_cell BK4.out 6).trans rfl)
      have hinr := (headOk_of HOK.out).1
      simp only at hinr
      have hn256 : nxt % 256 = nxt := by unfold inR at hinr; omega
      have HIN := Aside0.mk hinr
      have hklen : (kinds ex).length = L := by unfold kinds; rw [List.length_map]; exact HL.out
      have aLH := Aside0.mk (show ((kinds ex).length + 1) * 1 ≤ 140737488355328 by rw [hklen]; omega)
      have HKL := Aside0.mk hklen
      clear htk hklen hinr
      obtain ⟨C, hC⟩ : ∃ C, M + 40 = C := ⟨_, rfl⟩
      have HC := Aside0.mk hC
      have mkE := Aside0.mk (fun W => make_cap C (by have := HMM.out; omega) W)
      have e40 : wrap64 (40 + (M : Int)) = (C : Int) := by rw [IntWalk.wrap64_in _ (by have := HMM.out; omega)]; omega
      clear hC
      go_wp2_with (first | ((with_reducible refine gate_builtin (b := .append) (xs := #[.tmp 36, .tmp 40]) rfl ?_); at_builtin; refine print_append_num (w0 := w4) w4.heap.size rfl (.tmp 36) (.tmp 40) 22 5 .u8 1 rfl Try.underlying22 info5 (by decide) (.slice A6 j c6) (kinds ex) (nxt) rfl rfl ?aO ?aB ?aS ?aL ?_; (case aO => exact HO.out); (case aB => exact HB.out); (case aS => exact (HB.out).size); (case aL => exact aLH.out); intro v6 w6 ho hb hg hat; have HO6 := Aside0.mk ho; have HB6 := Aside0.mk hb; clear ho hb hg hat) | ((with_reducible refine gate_dst (N := 44) rfl ?_); refine make_event ?hg (N := 44) ?hd (cs := madeCells #[.int .u8 0] C) (t := 5) (n := 0) (c := C) ?hr ?_; (case hd => rfl); (case hg => rfl); (case hr => have mk := mkE.out w6; first | (go_simp; done) | (go_simp; rfl)); intro gm hgm w7 hmk hb7; have HGM := Aside0.mk hgm; have HO7 := Aside0.mk (own_cap (base := w6.heap.size) (by rw [hgm]; exact Nat.le_refl _) (by have := HMM.out; have := HC.out; omega) hmk); have HB7 := Aside0.mk (hb7 : Below w6.heap.size w6 w7); clear hgm hmk hb7))
      have BK7 := Aside0.mk (show w7.heap[q]? = some (.cells #[.int .i64 cls, .int .i64 lab, .int .i64 hop, .string src, .string dst, .slice A5 L c5, .int .i64 nxt, .slice A7 dat.length c7] 26 (0, 0)) from by
        rw [HB7.out.block q (Nat.lt_of_lt_of_le HQ4.out HB6.out.size), HB6.out.block q HQ4.out, BK4.out, HL.out])
      have hs0 : w7.cell? ⟨q, 0, none⟩ = some (.int .i64 cls) := (blk_cell BK7.out 0).trans rfl
      have hs1 : w7.cell? ⟨q, 1, none⟩ = some (.int .i64 lab) := (blk_cell BK7.out 1).trans rfl
      have hs2 : w7.cell? ⟨q, 2, none⟩ = some (.int .i64 hop) := (blk_cell BK7.out 2).trans rfl
      have hs3 : w7.cell? ⟨q, 3, none⟩ = some (.string src) := (blk_cell BK7.out 3).trans rfl
      have hs4 : w7.cell? ⟨q, 4, none⟩ = some (.string dst) := (blk_cell BK7.out 4).trans rfl
      have hs5' : w7.cell? ⟨q, 5, none⟩ = some (.slice A5 L c5) := (blk_cell BK7.out 5).trans rfl
      have hs7 : w7.cell? ⟨q, 7, none⟩ = some (.slice A7 dat.length c7) := (blk_cell BK7.out 7).trans rfl
      have elen := Aside0.mk (show (kinds ex ++ [nxt]).length = L + 1 by rw [List.length_append, HKL.out]; rfl)
      obtain ⟨g6, cap6, hv6, _, _⟩ := World.ownsRow.form HO6.out (by rw [elen.out]; omega)
      rw [elen.out] at hv6
      subst hv6
      have HO6' := Aside0.mk (show w6.ownsRow w4.heap.size 5 1 (.slice (some ⟨g6, 0, none⟩) (L + 1) cap6) (L + 1) (nums .u8 (kinds ex ++ [nxt])) from by rw [← elen.out]; exact elen.out ▸ HO6.out)
      have hk0' := own_at HO6'.out 0 (by omega) (by omega)
      have hk0 : w7.cell? ⟨g6, 0, none⟩ = some (.int .u8 (rd (kinds ex ++ [nxt]) 0)) := pw_cell_below HB7.out hk0'.1
      obtain ⟨k0, hk00⟩ : ∃ k0, rd (kinds ex ++ [nxt]) 0 = k0 := ⟨_, rfl⟩
      rw [hk00] at hk0
      have HK00 := Aside0.mk hk00
      have hL1 : decide ((0 : Int) < ((L + 1 : Nat) : Int)) = true := decide_eq_true (by omega)
      obtain ⟨b0, b1, b2, b3, b4, b5, hHD, r1, r2, r3, r4, r5, r6, r7, r8, r9, r10⟩ := head_nums (M := M) HIN.out HMM.out.2
      have HHD := Aside0.mk hHD
      have HS6 := Aside0.mk (show ∀ W, Below w6.heap.size w6 W → W.cell? ⟨q, 0, none⟩ = some (.int .i64 cls) ∧ W.cell? ⟨q, 1, none⟩ = some (.int .i64 lab) ∧ W.cell? ⟨q, 2, none⟩ = some (.int .i64 hop) ∧ W.cell? ⟨g6, 0, none⟩ = some (.int .u8 k0) from fun W hW => by
        have hb6 : w6.heap[q]? = some (.cells #[.int .i64 cls, .int .i64 lab, .int .i64 hop, .string src, .string dst, .slice A5 ex.length c5, .int .i64 nxt, .slice A7 dat.length c7] 26 (0, 0)) := by rw [HB6.out.block q HQ4.out, BK4.out]
        have hbW := blk_below hb6 hW
        exact ⟨(blk_cell hbW 0).trans rfl, (blk_cell hbW 1).trans rfl, (blk_cell hbW 2).trans rfl, pw_cell_below hW (by rw [← hk00]; exact hk0'.1)⟩)
      clear hk0' hk00 hHD
      refine start_ (n := 35) (S := fun w' => w'.cell? ⟨q, 0, none⟩ = some (.int .i64 cls) ∧ w'.cell? ⟨q, 1, none⟩ = some (.int .i64 lab) ∧ w'.cell? ⟨q, 2, none⟩ = some (.int .i64 hop) ∧ w'.cell? ⟨g6, 0, none⟩ = some (.int .u8 k0)) (ds := []) #[false, false, false, false, false, false, false, false, false, false, false, false, false, false, false, false, false, false, false, false, false, false, false, false, false, false, false, false, false, false, false, false, false, false, false] (by kernel_rfl) rfl rfl ⟨hs0, hs1, hs2, hk0⟩ (fun hHeld => ?_)
      refine pure_ (i := 0) (N := some 45) (v := ?_) (a' := ?_) #[true, false, false, false, false, false, false, false, false, false, false, false, false, false, false, false, false, false, false, false, false, false, false, false, false, false, false, false, false, false, false, false, false, false, false] rfl rfl (by kernel_rfl) (fun _ _ _ h => h) (Or.inl ⟨by rfl, ?_⟩) ?_ ?_
      rotate_left
      · intro w'
        go_simp
        with_reducible rfl
      rotate_left
      · simp only [Act.put, List.setIfInBounds_toArray, List.set_cons_zero, List.set_cons_succ]
        rfl
      refine pure_ (i := 1) (N := some 46) (v := ?_) (a' := ?_) #[true, true, false, false, false, false, false, false, false, false, false, false, false, false, false, false, false, false, false, false, false, false, false, false, false, false, false, false, false, false, false, false, false, false, false] rfl rfl (by kernel_rfl) (fun _ _ _ h => h) (Or.inl ⟨by rfl, ?_⟩) ?_ ?_
      rotate_left
      · intro w'
        go_simp
        with_reducible rfl
      rotate_left
      · simp only [Act.put, List.setIfInBounds_toArray, List.set_cons_zero, List.set_cons_succ]
        rfl
      refine take_ (i := 2) (N := some 47) (v := ?_) (a' := ?_) #[true, true, true, false, false, false, false, false, false, false, false, false, false, false, false, false, false, false, false, false, false, false, false, false, false, false, false, false, false, false, false, false, false, false, false] rfl rfl (by kernel_rfl) (fun _ _ _ h => h) (Or.inl ⟨by rfl, ?_⟩) hHeld ?_ ?_
      rotate_left
      · intro w' s0; have s0 := s0
        obtain ⟨z0, z1, z2, z3⟩ := s0
        go_simp
        with_reducible rfl
      rotate_left
      · simp only [Act.put, List.setIfInBounds_toArray, List.set_cons_zero, List.set_cons_succ]
        rfl
      refine pure_ (i := 3) (N := some 48) (v := ?_) (a' := ?_) #[true, true, true, true, false, false, false, false, false, false, false, false, false, false, false, false, false, false, false, false, false, false, false, false, false, false, false, false, false, false, false, false, false, false, false] rfl rfl (by kernel_rfl) (fun _ _ _ h => h) (Or.inl ⟨by rfl, ?_⟩) ?_ ?_
      rotate_left
      · intro w'
        go_simp
        with_reducible rfl
      rotate_left
      · simp only [Act.put, List.setIfInBounds_toArray, List.set_cons_zero, List.set_cons_succ]
        rfl
      refine pure_ (i := 4) (N := some 49) (v := ?_) (a' := ?_) #[true, true, true, true, true, false, false, false, false, false, false, false, false, false, false, false, false, false, false, false, false, false, false, false, false, false, false, false, false, false, false, false, false, false, false] rfl rfl (by kernel_rfl) (fun _ _ _ h => h) (Or.inl ⟨by rfl, ?_⟩) ?_ ?_
      rotate_left
      · intro w'
        go_simp
        with_reducible rfl
      rotate_left
      · simp only [Act.put, List.setIfInBounds_toArray, List.set_cons_zero, List.set_cons_succ]
        rfl
      refine pure_ (i := 5) (N := some 50) (v := ?_) (a' := ?_) #[true, true, true, true, true, true, false, false, false, false, false, false, false, false, false, false, false, false, false, false, false, false, false, false, false, false, false, false, false, false, false, false, false, false, false] rfl rfl (by kernel_rfl) (fun _ _ _ h => h) (Or.inl ⟨by rfl, ?_⟩) ?_ ?_
      rotate_left
      · intro w'
        go_simp
        with_reducible rfl
      rotate_left
      · simp only [Act.put, List.setIfInBounds_toArray, List.set_cons_zero, List.set_cons_succ]
        rfl
      refine pure_ (i := 6) (N := some 51) (v := ?_) (a' := ?_) #[true, true, true, true, true, true, true, false, false, false, false, false, false, false, false, false, false, false, false, false, false, false, false, false, false, false, false, false, false, false, false, false, false, false, false] rfl rfl (by kernel_rfl) (fun _ _ _ h => h) (Or.inl ⟨by rfl, ?_⟩) ?_ ?_
      rotate_left
      · intro w'
        go_simp
        with_reducible rfl
      rotate_left
      · simp only [Act.put, List.setIfInBounds_toArray, List.set_cons_zero, List.set_cons_succ]
        rfl
      refine take_ (i := 7) (N := some 52) (v := ?_) (a' := ?_) #[true, true, true, true, true, true, true, true, false, false, false, false, false, false, false, false, false, false, false, false, false, false, false, false, false, false, false, false, false, false, false, false, false, false, false] rfl rfl (by kernel_rfl) (fun _ _ _ h => h) (Or.inl ⟨by rfl, ?_⟩) hHeld ?_ ?_
      rotate_left
      · intro w' s0; have s0 := s0
        obtain ⟨z0, z1, z2, z3⟩ := s0
        go_simp
        with_reducible rfl
      rotate_left
      · simp only [Act.put, List.setIfInBounds_toArray, List.set_cons_zero, List.set_cons_succ]
        rfl
      refine pure_ (i := 8) (N := some 53) (v := ?_) (a' := ?_) #[true, true, true, true, true, true, true, true, true, false, false, false, false, false, false, false, false, false, false, false, false, false, false, false, false, false, false, false, false, false, false, false, false, false, false] rfl rfl (by kernel_rfl) (fun _ _ _ h => h) (Or.inl ⟨by rfl, ?_⟩) ?_ ?_
      rotate_left
      · intro w'
        go_simp
        with_reducible rfl
      rotate_left
      · simp only [Act.put, List.setIfInBounds_toArray, List.set_cons_zero, List.set_cons_succ]
        rfl
      refine pure_ (i := 9) (N := some 54) (v := ?_) (a' := ?_) #[true, true, true, true, true, true, true, true, true, true, false, false, false, false, false, false, false, false, false, false, false, false, false, false, false, false, false, false, false, false, false, false, false, false, false] rfl rfl (by kernel_rfl) (fun _ _ _ h => h) (Or.inl ⟨by rfl, ?_⟩) ?_ ?_
      rotate_left
      · intro w'
        go_simp
        with_reducible rfl
      rotate_left
      · simp only [Act.put, List.setIfInBounds_toArray, List.set_cons_zero, List.set_cons_succ]
        rfl
      refine take_ (i := 10) (N := some 55) (v := ?_) (a' := ?_) #[true, true, true, true, true, true, true, true, true, true, true, false, false, false, false, false, false, false, false, false, false, false, false, false, false, false, false, false, false, false, false, false, false, false, false] rfl rfl (by kernel_rfl) (fun _ _ _ h => h) (Or.inl ⟨by rfl, ?_⟩) hHeld ?_ ?_
      rotate_left
      · intro w' s0; have s0 := s0
        obtain ⟨z0, z1, z2, z3⟩ := s0
        go_simp
        with_reducible rfl
      rotate_left
      · simp only [Act.put, List.setIfInBounds_toArray, List.set_cons_zero, List.set_cons_succ]
        rfl
      refine pure_ (i := 11) (N := some 56) (v := ?_) (a' := ?_) #[true, true, true, true, true, true, true, true, true, true, true, true, false, false, false, false, false, false, false, false, false, false, false, false, false, false, false, false, false, false, false, false, false, false, false] rfl rfl (by kernel_rfl) (fun _ _ _ h => h) (Or.inl ⟨by rfl, ?_⟩) ?_ ?_
      rotate_left
      · intro w'
        go_simp
        with_reducible rfl
      rotate_left
      · simp only [Act.put, List.setIfInBounds_toArray, List.set_cons_zero, List.set_cons_succ]
        rfl
      refine pure_ (i := 12) (N := some 57) (v := ?_) (a' := ?_) #[true, true, true, true, true, true, true, true, true, true, true, true, true, false, false, false, false, false, false, false, false, false, false, false, false, false, false, false, false, false, false, false, false, false, false] rfl rfl (by kernel_rfl) (fun _ _ _ h => h) (Or.inl ⟨by rfl, ?_⟩) ?_ ?_
      rotate_left
      · intro w'
        go_simp
        with_reducible rfl
      rotate_left
      · simp only [Act.put, List.setIfInBounds_toArray, List.set_cons_zero, List.set_cons_succ]
        rfl
      refine pure_ (i := 13) (N := some 58) (v := ?_) (a' := ?_) #[true, true, true, true, true, true, true, true, true, true, true, true, true, true, false, false, false, false, false, false, false, false, false, false, false, false, false, false, false, false, false, false, false, false, false] rfl rfl (by kernel_rfl) (fun _ _ _ h => h) (Or.inl ⟨by rfl, ?_⟩) ?_ ?_
      rotate_left
      · intro w'
        go_simp
        with_reducible rfl
      rotate_left
      · simp only [Act.put, List.setIfInBounds_toArray, List.set_cons_zero, List.set_cons_succ]
        rfl
      refine pure_ (i := 14) (N := some 59) (v := ?_) (a' := ?_) #[true, true, true, true, true, true, true, true, true, true, true, true, true, true, true, false, false, false, false, false, false, false, false, false, false, false, false, false, false, false, false, false, false, false, false] rfl rfl (by kernel_rfl) (fun _ _ _ h => h) (Or.inl ⟨by rfl, ?_⟩) ?_ ?_
      rotate_left
      · intro w'
        go_simp
        with_reducible rfl
      rotate_left
      · simp only [Act.put, List.setIfInBounds_toArray, List.set_cons_zero, List.set_cons_succ]
        rfl
      refine take_ (i := 15) (N := some 60) (v := ?_) (a' := ?_) #[true, true, true, true, true, true, true, true, true, true, true, true, true, true, true, true, false, false, false, false, false, false, false, false, false, false, false, false, false, false, false, false, false, false, false] rfl rfl (by kernel_rfl) (fun _ _ _ h => h) (Or.inl ⟨by rfl, ?_⟩) hHeld ?_ ?_
      rotate_left
      · intro w' s0; have s0 := s0
        obtain ⟨z0, z1, z2, z3⟩ := s0
        go_simp
        with_reducible rfl
      rotate_left
      · simp only [Act.put, List.setIfInBounds_toArray, List.set_cons_zero, List.set_cons_succ]
        rfl
      refine pure_ (i := 16) (N := some 61) (v := ?_) (a' := ?_) #[true, true, true, true, true, true, true, true, true, true, true, true, true, true, true, true, true, false, false, false, false, false, false, false, false, false, false, false, false, false, false, false, false, false, false] rfl rfl (by kernel_rfl) (fun _ _ _ h => h) (Or.inl ⟨by rfl, ?_⟩) ?_ ?_
      rotate_left
      · intro w'
        go_simp
        with_reducible rfl
      rotate_left
      · simp only [Act.put, List.setIfInBounds_toArray, List.set_cons_zero, List.set_cons_succ]
        rfl
      refine pure_ (i := 17) (N := some 62) (v := ?_) (a' := ?_) #[true, true, true, true, true, true, true, true, true, true, true, true, true, true, true, true, true, true, false, false, false, false, false, false, false, false, false, false, false, false, false, false, false, false, false] rfl rfl (by kernel_rfl) (fun _ _ _ h => h) (Or.inl ⟨by rfl, ?_⟩) ?_ ?_
      rotate_left
      · intro w'
        go_simp
        with_reducible rfl
      rotate_left
      · simp only [Act.put, List.setIfInBounds_toArray, List.set_cons_zero, List.set_cons_succ]
        rfl
      refine pure_ (i := 18) (N := some 63) (v := ?_) (a' := ?_) #[true, true, true, true, true, true, true, true, true, true, true, true, true, true, true, true, true, true, true, false, false, false, false, false, false, false, false, false, false, false, false, false, false, false, false] rfl rfl (by kernel_rfl) (fun _ _ _ h => h) (Or.inl ⟨by rfl, ?_⟩) ?_ ?_
      rotate_left
      · intro w'
        go_simp
        with_reducible rfl
      rotate_left
      · simp only [Act.put, List.setIfInBounds_toArray, List.set_cons_zero, List.set_cons_succ]
        rfl
      refine take_ (i := 19) (N := some 64) (v := ?_) (a' := ?_) #[true, true, true, true, true, true, true, true, true, true, true, true, true, true, true, true, true, true, true, true, false, false, false, false, false, false, false, false, false, false, false, false, false, false, false] rfl rfl (by kernel_rfl) (fun _ _ _ h => h) (Or.inl ⟨by rfl, ?_⟩) hHeld ?_ ?_
      rotate_left
      · intro w' s0; have s0 := s0
        obtain ⟨z0, z1, z2, z3⟩ := s0
        go_simp
        with_reducible rfl
      rotate_left
      · simp only [Act.put, List.setIfInBounds_toArray, List.set_cons_zero, List.set_cons_succ]
        rfl
      refine pure_ (i := 20) (N := some 65) (v := ?_) (a' := ?_) #[true, true, true, true, true, true, true, true, true, true, true, true, true, true, true, true, true, true, true, true, true, false, false, false, false, false, false, false, false, false, false, false, false, false, false] rfl rfl (by kernel_rfl) (fun _ _ _ h => h) (Or.inl ⟨by rfl, ?_⟩) ?_ ?_
      rotate_left
      · intro w'
        go_simp
        with_reducible rfl
      rotate_left
      · simp only [Act.put, List.setIfInBounds_toArray, List.set_cons_zero, List.set_cons_succ]
        rfl
      refine pure_ (i := 21) (N := some 66) (v := ?_) (a' := ?_) #[true, true, true, true, true, true, true, true, true, true, true, true, true, true, true, true, true, true, true, true, true, true, false, false, false, false, false, false, false, false, false, false, false, false, false] rfl rfl (by kernel_rfl) (fun _ _ _ h => h) (Or.inl ⟨by rfl, ?_⟩) ?_ ?_
      rotate_left
      · intro w'
        go_simp
        with_reducible rfl
      rotate_left
      · simp only [Act.put, List.setIfInBounds_toArray, List.set_cons_zero, List.set_cons_succ]
        rfl
      refine pure_ (i := 22) (N := some 67) (v := ?_) (a' := ?_) #[true, true, true, true, true, true, true, true, true, true, true, true, true, true, true, true, true, true, true, true, true, true, true, false, false, false, false, false, false, false, false, false, false, false, false] rfl rfl (by kernel_rfl) (fun _ _ _ h => h) (Or.inl ⟨by rfl, ?_⟩) ?_ ?_
      rotate_left
      · intro w'
        go_simp
        with_reducible rfl
      rotate_left
      · simp only [Act.put, List.setIfInBounds_toArray, List.set_cons_zero, List.set_cons_succ]
        rfl
      refine pure_ (i := 23) (N := some 68) (v := ?_) (a' := ?_) #[true, true, true, true, true, true, true, true, true, true, true, true, true, true, true, true, true, true, true, true, true, true, true, true, false, false, false, false, false, false, false, false, false, false, false] rfl rfl (by kernel_rfl) (fun _ _ _ h => h) (Or.inl ⟨by rfl, ?_⟩) ?_ ?_
      rotate_left
      · intro w'
        go_simp
        with_reducible rfl
      rotate_left
      · simp only [Act.put, List.setIfInBounds_toArray, List.set_cons_zero, List.set_cons_succ]
        rfl
      refine pure_ (i := 24) (N := some 69) (v := ?_) (a' := ?_) #[true, true, true, true, true, true, true, true, true, true, true, true, true, true, true, true, true, true, true, true, true, true, true, true, true, false, false, false, false, false, false, false, false, false, false] rfl rfl (by kernel_rfl) (fun _ _ _ h => h) (Or.inl ⟨by rfl, ?_⟩) ?_ ?_
      rotate_left
      · intro w'
        go_simp
        with_reducible rfl
      rotate_left
      · simp only [Act.put, List.setIfInBounds_toArray, List.set_cons_zero, List.set_cons_succ]
        rfl
      refine pure_ (i := 25) (N := some 70) (v := ?_) (a' := ?_) #[true, true, true, true, true, true, true, true, true, true, true, true, true, true, true, true, true, true, true, true, true, true, true, true, true, true, false, false, false, false, false, false, false, false, false] rfl rfl (by kernel_rfl) (fun _ _ _ h => h) (Or.inl ⟨by rfl, ?_⟩) ?_ ?_
      rotate_left
      · intro w'
        go_simp
        with_reducible rfl
      rotate_left
      · simp only [Act.put, List.setIfInBounds_toArray, List.set_cons_zero, List.set_cons_succ]
        rfl
      refine pure_ (i := 26) (N := some 71) (v := ?_) (a' := ?_) #[true, true, true, true, true, true, true, true, true, true, true, true, true, true, true, true, true, true, true, true, true, true, true, true, true, true, true, false, false, false, false, false, false, false, false] rfl rfl (by kernel_rfl) (fun _ _ _ h => h) (Or.inl ⟨by rfl, ?_⟩) ?_ ?_
      rotate_left
      · intro w'
        go_simp
        with_reducible rfl
      rotate_left
      · simp only [Act.put, List.setIfInBounds_toArray, List.set_cons_zero, List.set_cons_succ]
        rfl
      refine pure_ (i := 27) (N := some 72) (v := ?_) (a' := ?_) #[true, true, true, true, true, true, true, true, true, true, true, true, true, true, true, true, true, true, true, true, true, true, true, true, true, true, true, true, false, false, false, false, false, false, false] rfl rfl (by kernel_rfl) (fun _ _ _ h => h) (Or.inl ⟨by rfl, ?_⟩) ?_ ?_
      rotate_left
      · intro w'
        go_simp
        with_reducible rfl
      rotate_left
      · simp only [Act.put, List.setIfInBounds_toArray, List.set_cons_zero, List.set_cons_succ]
        rfl
      refine take_ (i := 28) (N := some 73) (v := ?_) (a' := ?_) #[true, true, true, true, true, true, true, true, true, true, true, true, true, true, true, true, true, true, true, true, true, true, true, true, true, true, true, true, true, false, false, false, false, false, false] rfl rfl (by kernel_rfl) (fun _ _ _ h => h) (Or.inl ⟨by rfl, ?_⟩) hHeld ?_ ?_
      rotate_left
      · intro w' s0; have s0 := s0
        obtain ⟨z0, z1, z2, z3⟩ := s0
        go_simp
        with_reducible rfl
      rotate_left
      · simp only [Act.put, List.setIfInBounds_toArray, List.set_cons_zero, List.set_cons_succ]
        rfl
      refine pure_ (i := 29) (N := some 74) (v := ?_) (a' := ?_) #[true, true, true, true, true, true, true, true, true, true, true, true, true, true, true, true, true, true, true, true, true, true, true, true, true, true, true, true, true, true, false, false, false, false, false] rfl rfl (by kernel_rfl) (fun _ _ _ h => h) (Or.inl ⟨by rfl, ?_⟩) ?_ ?_
      rotate_left
      · intro w'
        go_simp
        with_reducible rfl
      rotate_left
      · simp only [Act.put, List.setIfInBounds_toArray, List.set_cons_zero, List.set_cons_succ]
        rfl
      refine take_ (i := 30) (N := some 75) (v := ?_) (a' := ?_) #[true, true, true, true, true, true, true, true, true, true, true, true, true, true, true, true, true, true, true, true, true, true, true, true, true, true, true, true, true, true, true, false, false, false, false] rfl rfl (by kernel_rfl) (fun _ _ _ h => h) (Or.inl ⟨by rfl, ?_⟩) hHeld ?_ ?_
      rotate_left
      · intro w' s0; have s0 := s0
        obtain ⟨z0, z1, z2, z3⟩ := s0
        go_simp
        with_reducible rfl
      rotate_left
      · simp only [Act.put, List.setIfInBounds_toArray, List.set_cons_zero, List.set_cons_succ]
        rfl
      refine pure_ (i := 31) (N := some 76) (v := ?_) (a' := ?_) #[true, true, true, true, true, true, true, true, true, true, true, true, true, true, true, true, true, true, true, true, true, true, true, true, true, true, true, true, true, true, true, true, false, false, false] rfl rfl (by kernel_rfl) (fun _ _ _ h => h) (Or.inl ⟨by rfl, ?_⟩) ?_ ?_
      rotate_left
      · intro w'
        go_simp
        with_reducible rfl
      rotate_left
      · simp only [Act.put, List.setIfInBounds_toArray, List.set_cons_zero, List.set_cons_succ]
        rfl
      refine one_ (i := 32) (N := some 77) #[true, true, true, true, true, true, true, true, true, true, true, true, true, true, true, true, true, true, true, true, true, true, true, true, true, true, true, true, true, true, true, true, true, false, false] rfl rfl (by kernel_rfl) (by decide) (fun K hK => ?_)
      refine event_step (w1 := w7.drew.alloc (.cells #[.int .u8 b0, .int .u8 b1, .int .u8 b2, .int .u8 b3, .int .u8 b4, .int .u8 b5, .int .u8 k0, .int .u8 hop] 5)) (v := .slice (some ⟨w7.drew.heap.size, 0, none⟩) 8 8) (by rfl) ?hr ?_
      case hr => first | (go_simp; done) | (go_simp; rfl)
      have HBA := Aside0.mk (show Below w6.heap.size w6 (w7.drew.alloc (.cells #[.int .u8 b0, .int .u8 b1, .int .u8 b2, .int .u8 b3, .int .u8 b4, .int .u8 b5, .int .u8 k0, .int .u8 hop] 5)) from below_alloc (below_drew HB7.out) _)
      refine hK.out _ _ (HS6.out _ HBA.out) (fun hHeld => ?_)
      clear hK K
      refine norm_ (a' := ?_) ?_ ?_
      rotate_left
      · show Act.put _ (some 77) _ = _
        simp only [Act.put, List.setIfInBounds_toArray, List.set_cons_zero, List.set_cons_succ]
        rfl
      have HLIT := Aside0.mk (own_reads' (own_lit w7.drew 0 5 .u8 [b0, b1, b2, b3, b4, b5, k0, hop] (Nat.zero_le _) (by simp)))
      have HOD := Aside0.mk (Kd.R_of_own (enc := Value.int .u8) (h1 := fun _ => rfl) (xs := ([] : List Int)) (ok := fun _ => True) (own_alloc (own_drew HO7.out) (.cells #[.int .u8 b0, .int .u8 b1, .int .u8 b2, .int .u8 b3, .int .u8 b4, .int .u8 b5, .int .u8 k0, .int .u8 hop] 5)) (fun _ _ => trivial))
      refine one_ (i := 33) (N := some 78) #[true, true, true, true, true, true, true, true, true, true, true, true, true, true, true, true, true, true, true, true, true, true, true, true, true, true, true, true, true, true, true, true, true, true, false] rfl rfl (by kernel_rfl) (by decide) (fun K hK => ?_)
      refine Kd.R_append_rows_step (Kd.int .u8) (Rr := fun (x : Int) (cs : List Value) => cs = [.int .u8 x]) (w0 := w6) w6.heap.size (by rfl) (.tmp 45) (.tmp 77) 22 5 (.int .u8 0) 1 rfl Try.underlying22 info5 rfl (by decide) (by decide) (.slice (some ⟨gm, 0, none⟩) 0 C) [] [b0, b1, b2, b3, b4, b5, k0, hop] (some ⟨w7.drew.heap.size, 0, none⟩) 8 8 (fun _ => True) (fun _ => False) rfl rfl ?aO ?aR (fun _ _ h => h) (fun _ h => h.elim) (fun _ _ => trivial) ?aB ?aS (by decide) ?_
      case aO => exact HOD.out
      case aR => exact Kd.C_of_reads (enc := Value.int .u8) (d := (0 : Int)) (h1 := fun _ => rfl) HLIT.out
      case aB => exact HBA.out
      case aS => exact HBA.out.size
      intro v9 w9 ho9 hb9 _ _
      have HO9 := Aside0.mk (show Own w9 w6.heap.size v9 [b0, b1, b2, b3, b4, b5, k0, hop] from Kd.own_of_R ho9)
      have HB9 := Aside0.mk hb9
      clear ho9 hb9 HLIT HOD
      refine hK.out _ _ (HS6.out _ HB9.out) (fun hHeld => ?_)
      clear hK K
      refine norm_ (a' := ?_) ?_ ?_
      rotate_left
      · show Act.put _ (some 78) _ = _
        simp only [Act.put, List.setIfInBounds_toArray, List.set_cons_zero, List.set_cons_succ]
        rfl
      refine pure_ (i := 34) (N := some 9) (v := ?_) (a' := ?_) #[true, true, true, true, true, true, true, true, true, true, true, true, true, true, true, true, true, true, true, true, true, true, true, true, true, true, true, true, true, true, true, true, true, true, true] rfl rfl (by kernel_rfl) (fun _ _ _ h => h) (Or.inl ⟨by rfl, ?_⟩) ?_ ?_
      rotate_left
      · intro w'
        go_simp
        with_reducible rfl
      rotate_left
      · simp only [Act.put, List.setIfInBounds_toArray, List.set_cons_zero, List.set_cons_succ]
        rfl
      refine done_ (by kernel_rfl) ?_
      clear r1 r2 r3 r4 r5 r6 r7 r8 r9 r10 hHeld hs0 hs1 hs2 hs3 hs4 hs5' hs7 hk0 hL1
      have HBQ := Aside0.mk (show ∀ W, Below w6.heap.size w6 W → W.heap[q]? = some (.cells #[.int .i64 cls, .int .i64 lab, .int .i64 hop, .string src, .string dst, .slice A5 L c5, .int .i64 nxt, .slice A7 dat.length c7] 26 (0, 0)) from fun W hW => by
        have hb6 : w6.heap[q]? = some (.cells #[.int .i64 cls, .int .i64 lab, .int .i64 hop, .string src, .string dst, .slice A5 L c5, .int .i64 nxt, .slice A7 dat.length c7] 26 (0, 0)) := by rw [HB6.out.block q HQ4.out, BK4.out, HL.out]
        exact blk_below hb6 hW)
      have HSRC := Aside0.mk (show src.size ≤ 1000 ∧ dst.size ≤ 1000 from ⟨HP.out.src, HP.out.dst⟩)
      have hs3 : w9.cell? ⟨q, 3, none⟩ = some (.string src) := (blk_cell (HBQ.out _ HB9.out) 3).trans rfl
      go_wp2_with (first | ((with_reducible refine gate_builtin (b := .append) (xs := #[.tmp 79, .tmp 81]) rfl ?_); at_builtin; refine print_append_str (w0 := w6) w6.heap.size rfl (.tmp 79) (.tmp 81) 22 9 5 rfl Try.underlying22 Try.underlying9 info5 v9 ([b0, b1, b2, b3, b4, b5, k0, hop]) src rfl rfl ?aO ?aB ?aS ?aL ?_; (case aO => exact HO9.out); (case aB => exact HB9.out); (case aS => exact (HB9.out).size); (case aL => have hsl := HSRC.out; simp only [List.length_append, List.length_cons, List.length_nil, bytesOf_length]; omega); intro v10 w10 ho hb _; have HO10 := Aside0.mk ho; have HB10 := Aside0.mk hb; have hs4 : w10.cell? ⟨q, 4, none⟩ = some (.string dst) := (blk_cell (HBQ.out _ HB10.out) 4).trans rfl; clear ho hb) | ((with_reducible refine gate_builtin (b := .append) (xs := #[.tmp 83, .tmp 85]) rfl ?_); at_builtin; refine print_append_str (w0 := w6) w6.heap.size rfl (.tmp 83) (.tmp 85) 22 9 5 rfl Try.underlying22 Try.underlying9 info5 v10 ([b0, b1, b2, b3, b4, b5, k0, hop] ++ bytesOf src) dst rfl rfl ?aO ?aB ?aS ?aL ?_; (case aO => exact HO10.out); (case aB => exact HB10.out); (case aS => exact (HB10.out).size); (case aL => have hsl := HSRC.out; simp only [List.length_append, List.length_cons, List.length_nil, bytesOf_length]; omega); intro v11 w11 ho hb _; have HO11 := Aside0.mk ho; have HB11 := Aside0.mk hb; have hs5 : w11.cell? ⟨q, 5, none⟩ = some (.slice A5 L c5) := (blk_cell (HBQ.out _ HB11.out) 5).trans rfl; clear ho hb))
      clear HO HB hs6 hs3 hs4 hd
      go_loopw [9, 90] (fun ov i wr => ∃ (j : Nat) (A9 : Option Addr) (n9 c9 : Nat), j ≤ L ∧ i = .int .i64 j ∧ ov = .slice A9 n9 c9 ∧ Aside0 (Own wr w6.heap.size (.slice A9 n9 c9) ([b0, b1, b2, b3, b4, b5, k0, hop] ++ bytesOf src ++ bytesOf dst ++ pre ex nxt j)) ∧ Aside0 (Below w6.heap.size w6 wr)) (fun _ i _ => L - (intOf i).toNat)
      case atStart =>
        obtain ⟨A9, c9, h9⟩ := own_slice HO11.out
        exact ⟨0, A9, _, c9, by omega, rfl, h9, Aside0.mk (by rw [← h9, show pre ex nxt 0 = [] from rfl, List.append_nil]; exact HO11.out), HB11⟩
      case round =>
        clear HO11 HB11 HO10 HB10 HO9 HB9
        obtain ⟨j, A9, n9, c9, hj, rfl, rfl, HO, HB⟩ := hrel
        by_cases hjl : j < L
        · have hd : decide ((j : Int) < (L : Int)) = true := by simp; omega
          have hjn : j < ex.length := by rw [HL.out]; exact hjl
          obtain ⟨ad, hA, hc0', hc1'⟩ := ext_cells R5.out j hjn
          subst hA
          have HB46 := Aside0.mk (HB6.out.trans (HB.out.mono HB6.out.size))
          have hc0 := pw_cell_below HB46.out hc0'
          have hc1 := pw_cell_below HB46.out hc1'
          have hps := pre_succ ex nxt j
          have hxo := wok_xok 0 ex (wok_of HOK.out) j hjn
          have hpl := pre_len ex nxt HP.out.each j (by omega)
          have hpe : piece ex nxt j = rd (kinds ex ++ [nxt]) ((j + 1 : Nat) : Int) :: ((if (ex.getD j z43).f0 = 44 then [] else [(((ex.getD j z43).f1.size + 2) / 8 - 1 : Nat)]).map (fun n : Nat => (n : Int)) ++ bytesOf (ex.getD j z43).f1) := rfl
          have hes : (ex.getD j z43).f1.size ≤ 4000 := HP.out.each _ (by
            rw [List.getD_eq_getElem?_getD, List.getElem?_eq_getElem hjn]
            exact List.getElem_mem hjn)
          have hkk := own_at HO6'.out ((j + 1 : Nat) : Int) (by omega) (by omega)
          obtain ⟨kk, hkke⟩ : ∃ kk, rd (kinds ex ++ [nxt]) ((j + 1 : Nat) : Int) = kk := ⟨_, rfl⟩
          rw [hkke] at hkk hpe
          rw [Int.toNat_natCast] at hkk
          have HKC := Aside0.mk (fun (W : World) (hW : Below w6.heap.size w6 W) => pw_cell_below hW hkk.1)
          obtain ⟨⟨k, s⟩, hx⟩ : ∃ x, ex.getD j z43 = x := ⟨_, rfl⟩
          rw [hx] at hc0 hc1 hpe hxo hes
          have hes' : s.size ≤ 4000 := hes
          obtain ⟨XS, hXS⟩ : ∃ XS, [b0, b1, b2, b3, b4, b5, k0, hop] ++ bytesOf src ++ bytesOf dst ++ pre ex nxt j = XS := ⟨_, rfl⟩
          have HXL := Aside0.mk (show XS.length ≤ 8000000 from by rw [← hXS]; have h1 := HSRC.out; simp only [List.length_append, List.length_cons, List.length_nil, bytesOf_length]; omega)
          have HPS := Aside0.mk (show [b0, b1, b2, b3, b4, b5, k0, hop] ++ bytesOf src ++ bytesOf dst ++ pre ex nxt (j + 1) = XS ++ piece ex nxt j from by rw [hps, ← List.append_assoc, hXS])
          rw [hXS] at HO
          have HPE := Aside0.mk hpe
          obtain ⟨S, hS⟩ : ∃ S, s.size = S := ⟨_, rfl⟩
          have HSZ := Aside0.mk (show s.size ≤ 4000 from hes')
          have eS : (s.size : Int) = (S : Int) := by rw [hS]
          have hS4 : S ≤ 4000 := by rw [← hS]; exact hes'
          by_cases k44 : k = 44
          · have d44 : (k != 44) = false := bne_eq_false_iff_eq.mpr k44
            have HPC := Aside0.mk (show piece ex nxt j = [kk] ++ bytesOf s from by rw [HPE.out]; simp [k44])
            clear k44 hxo hps hpl hpe hes hes' hkk hkke hx hXS hc0' hc1' hjn hS
            go_wp2_with (first | ((with_reducible refine gate_dst (N := 11) rfl ?_); refine box_event ?hg (N := 11) ?hd (cs := #[.int .i64 0, .string ByteArray.empty]) (t := 43) ?hr ?_; (case hd => rfl); (case hg => rfl); (case hr => first | (go_simp; done) | (go_simp; rfl)); intro q8 hq8 w3 hbox hb3; have BK8 := Aside0.mk hbox; have HB8 := Aside0.mk hb3; have HQ8 := Aside0.mk hq8; clear hbox hb3 hq8) | ((with_reducible refine gate_store (t := 43) (p := 11) rfl ?_); have hz0 : w3.cell? ⟨q8, 0, none⟩ = some (.int .i64 0) := (blk_cell BK8.out 0).trans rfl; have hz1 : w3.cell? ⟨q8, 1, none⟩ = some (.string ByteArray.empty) := (blk_cell BK8.out 1).trans rfl; have hf0 := blk_frozen BK8.out 0; have hf1 := blk_frozen BK8.out 1; refine store_event (t := 43) (p := 11) (v := ?vo11) (w1 := (w3.setCell ⟨q8, 0, none⟩ (.int .i64 k)).setCell ⟨q8, 1, none⟩ (.string s)) ?hg ?ho ?hn ?hr ?_; (case ho => rfl); (case hg => rfl); (case hn => rfl); (case hr => first | (go_simp; done) | (go_simp; rfl)); intro w5 hw; have HX5 := Aside0.mk (show w5.heap[q8]? = some (.cells #[.int .i64 k, .string s] 43 (0, 0)) ∧ Below wr.heap.size wr w5 from by rw [hw]; exact ext_stored BK8.out HB8.out (by rw [HQ8.out]; exact Nat.le_refl _) k s); clear hw hz0 hz1 hf0 hf1; have hq0 : w5.cell? ⟨q8, 0, none⟩ = some (.int .i64 k) := (blk_cell HX5.out.1 0).trans rfl; have hq1 : w5.cell? ⟨q8, 1, none⟩ = some (.string s) := (blk_cell HX5.out.1 1).trans rfl; have HB5 := Aside0.mk (HB.out.trans (HX5.out.2.mono HB.out.size)); have HO5 := Aside0.mk (own_other HO.out (grown_of_below HX5.out.2 none) (own_none _)); have hkc := HKC.out _ HB5.out; have HQB := Aside0.mk (show w6.heap.size ≤ q8 from by rw [HQ8.out]; exact HB.out.size)) | ((with_reducible refine gate_builtin (b := .append) (xs := #[.tmp 95, .tmp 101]) rfl ?_); at_builtin; refine print_append_num (w0 := w6) w6.heap.size rfl (.tmp 95) (.tmp 101) 22 5 .u8 1 rfl Try.underlying22 info5 (by decide) (.slice A9 n9 c9) (XS) (kk) rfl rfl ?aO ?aB ?aS ?aL ?_; (case aO => exact HO5.out); (case aB => exact HB5.out); (case aS => exact (HB5.out).size); (case aL => exact len_num HXL.out); intro v12 w12 ho hb hg _; have HO12 := Aside0.mk ho; have HB12 := Aside0.mk hb; have hb8 := blk_grown HX5.out.1 hg (fun e => own_ne_q HO5.out HX5.out.1 e); have hq0 : w12.cell? ⟨q8, 0, none⟩ = some (.int .i64 k) := (blk_cell hb8 0).trans rfl; have hq1 : w12.cell? ⟨q8, 1, none⟩ = some (.string s) := (blk_cell hb8 1).trans rfl; have HX12 := Aside0.mk hb8; clear ho hb hg hb8) | ((with_reducible refine gate_builtin (b := .append) (xs := #[.tmp 116, .tmp 118]) rfl ?_); at_builtin; refine print_append_str (w0 := w6) w6.heap.size rfl (.tmp 116) (.tmp 118) 22 9 5 rfl Try.underlying22 Try.underlying9 info5 v12 (XS ++ [kk]) s rfl rfl ?aO ?aB ?aS ?aL ?_; (case aO => exact HO12.out); (case aB => exact HB12.out); (case aS => exact (HB12.out).size); (case aL => exact len_str [kk] HXL.out (by simp) HSZ.out); intro v13 w13 ho hb _; have HO13 := Aside0.mk ho; have HB13 := Aside0.mk hb; clear ho hb))
            obtain ⟨A13, c13, hv13⟩ := own_slice HO13.out
            have HV13 := Aside0.mk hv13
            clear hv13
            go_round
            case rel => exact ⟨j + 1, A13, _, c13, hjl, by go_num, HV13.out, Aside0.mk (by rw [← HV13.out, HPS.out, HPC.out, ← List.append_assoc]; exact HO13.out), HB13⟩
            case measure => simp [intOf]; omega
          · have d44 : (k != 44) = true := bne_iff_ne.mpr k44
            have hz8 : (S + 2) % 8 = 0 ∧ S + 2 ≤ 2048 := by
              unfold xok at hxo
              simp only [Bool.and_eq_true, decide_eq_true_eq] at hxo
              have h := hxo.1.2
              have hx2 : xsz ⟨k, s⟩ = S + 2 := by unfold xsz ahd; rw [if_neg k44]; show s.size + 2 = S + 2; rw [hS]
              rw [hx2] at h
              exact h
            obtain ⟨Q, hQ⟩ : ∃ Q, (S + 2) / 8 - 1 = Q := ⟨_, rfl⟩
            have T := Aside0.mk (q_nums hz8.1 hz8.2 hQ)
            have HPC := Aside0.mk (show piece ex nxt j = [kk] ++ [(Q : Int)] ++ bytesOf s from by rw [HPE.out, if_neg k44]; show kk :: ([((s.size + 2) / 8 - 1 : Nat)].map (fun n : Nat => (n : Int)) ++ bytesOf s) = _; rw [hS, hQ]; rfl)
            clear k44 hxo hps hpl hpe hes hes' hkk hkke hx hXS hc0' hc1' hjn hS hz8 hQ
            obtain ⟨t1, t2, t3, t4, t5, t6, t7⟩ := T.out
            go_wp2_with (first | ((with_reducible refine gate_dst (N := 11) rfl ?_); refine box_event ?hg (N := 11) ?hd (cs := #[.int .i64 0, .string ByteArray.empty]) (t := 43) ?hr ?_; (case hd => rfl); (case hg => rfl); (case hr => first | (go_simp; done) | (go_simp; rfl)); intro q8 hq8 w3 hbox hb3; have BK8 := Aside0.mk hbox; have HB8 := Aside0.mk hb3; have HQ8 := Aside0.mk hq8; clear hbox hb3 hq8) | ((with_reducible refine gate_store (t := 43) (p := 11) rfl ?_); have hz0 : w3.cell? ⟨q8, 0, none⟩ = some (.int .i64 0) := (blk_cell BK8.out 0).trans rfl; have hz1 : w3.cell? ⟨q8, 1, none⟩ = some (.string ByteArray.empty) := (blk_cell BK8.out 1).trans rfl; have hf0 := blk_frozen BK8.out 0; have hf1 := blk_frozen BK8.out 1; refine store_event (t := 43) (p := 11) (v := ?vo12) (w1 := (w3.setCell ⟨q8, 0, none⟩ (.int .i64 k)).setCell ⟨q8, 1, none⟩ (.string s)) ?hg ?ho ?hn ?hr ?_; (case ho => rfl); (case hg => rfl); (case hn => rfl); (case hr => first | (go_simp; done) | (go_simp; rfl)); intro w5 hw; have HX5 := Aside0.mk (show w5.heap[q8]? = some (.cells #[.int .i64 k, .string s] 43 (0, 0)) ∧ Below wr.heap.size wr w5 from by rw [hw]; exact ext_stored BK8.out HB8.out (by rw [HQ8.out]; exact Nat.le_refl _) k s); clear hw hz0 hz1 hf0 hf1; have hq0 : w5.cell? ⟨q8, 0, none⟩ = some (.int .i64 k) := (blk_cell HX5.out.1 0).trans rfl; have hq1 : w5.cell? ⟨q8, 1, none⟩ = some (.string s) := (blk_cell HX5.out.1 1).trans rfl; have HB5 := Aside0.mk (HB.out.trans (HX5.out.2.mono HB.out.size)); have HO5 := Aside0.mk (own_other HO.out (grown_of_below HX5.out.2 none) (own_none _)); have hkc := HKC.out _ HB5.out; have HQB := Aside0.mk (show w6.heap.size ≤ q8 from by rw [HQ8.out]; exact HB.out.size)) | ((with_reducible refine gate_builtin (b := .append) (xs := #[.tmp 95, .tmp 101]) rfl ?_); at_builtin; refine print_append_num (w0 := w6) w6.heap.size rfl (.tmp 95) (.tmp 101) 22 5 .u8 1 rfl Try.underlying22 info5 (by decide) (.slice A9 n9 c9) (XS) (kk) rfl rfl ?aO ?aB ?aS ?aL ?_; (case aO => exact HO5.out); (case aB => exact HB5.out); (case aS => exact (HB5.out).size); (case aL => exact len_num HXL.out); intro v12 w12 ho hb hg _; have HO12 := Aside0.mk ho; have HB12 := Aside0.mk hb; have hb8 := blk_grown HX5.out.1 hg (fun e => own_ne_q HO5.out HX5.out.1 e); have hq0 : w12.cell? ⟨q8, 0, none⟩ = some (.int .i64 k) := (blk_cell hb8 0).trans rfl; have hq1 : w12.cell? ⟨q8, 1, none⟩ = some (.string s) := (blk_cell hb8 1).trans rfl; have HX12 := Aside0.mk hb8; clear ho hb hg hb8) | ((with_reducible refine gate_builtin (b := .append) (xs := #[.tmp 106, .tmp 114]) rfl ?_); at_builtin; refine print_append_num (w0 := w6) w6.heap.size rfl (.tmp 106) (.tmp 114) 22 5 .u8 1 rfl Try.underlying22 info5 (by decide) v12 (XS ++ [kk]) ((Q : Int)) rfl rfl ?aO ?aB ?aS ?aL ?_; (case aO => exact HO12.out); (case aB => exact HB12.out); (case aS => exact (HB12.out).size); (case aL => exact len_num' [kk] HXL.out (by simp)); intro v14 w14 ho hb hg _; have HO14 := Aside0.mk ho; have HB14 := Aside0.mk hb; have hb8 := blk_grown HX12.out hg (fun e => own_ne_q HO12.out HX12.out e); have hq0 : w14.cell? ⟨q8, 0, none⟩ = some (.int .i64 k) := (blk_cell hb8 0).trans rfl; have hq1 : w14.cell? ⟨q8, 1, none⟩ = some (.string s) := (blk_cell hb8 1).trans rfl; clear ho hb hg hb8) | ((with_reducible refine gate_builtin (b := .append) (xs := #[.tmp 116, .tmp 118]) rfl ?_); at_builtin; refine print_append_str (w0 := w6) w6.heap.size rfl (.tmp 116) (.tmp 118) 22 9 5 rfl Try.underlying22 Try.underlying9 info5 v14 (XS ++ [kk] ++ [(Q : Int)]) s rfl rfl ?aO ?aB ?aS ?aL ?_; (case aO => exact HO14.out); (case aB => exact HB14.out); (case aS => exact (HB14.out).size); (case aL => rw [List.append_assoc]; exact len_str ([kk] ++ [(Q : Int)]) HXL.out (by simp) HSZ.out); intro v13 w13 ho hb _; have HO13 := Aside0.mk ho; have HB13 := Aside0.mk hb; clear ho hb))
            obtain ⟨A13, c13, hv13⟩ := own_slice HO13.out
            have HV13 := Aside0.mk hv13
            clear hv13
            go_round
            case rel => exact ⟨j + 1, A13, _, c13, hjl, by go_num, HV13.out, Aside0.mk (by rw [← HV13.out, HPS.out, HPC.out, ← List.append_assoc, ← List.append_assoc]; exact HO13.out), HB13⟩
            case measure => simp [intOf]; omega
        · have hd : decide ((j : Int) < (L : Int)) = false := by simp; omega
          have hjL : j = ex.length := by have := HL.out; omega
          subst hjL
          have hs7 : wr.cell? ⟨q, 7, none⟩ = some (.slice A7 dat.length c7) := (blk_cell (HBQ.out _ HB.out) 7).trans rfl
          have hpl := pre_len ex nxt HP.out.each ex.length (Nat.le_refl _)
          obtain ⟨XS, hXS⟩ : ∃ XS, [b0, b1, b2, b3, b4, b5, k0, hop] ++ bytesOf src ++ bytesOf dst ++ pre ex nxt ex.length = XS := ⟨_, rfl⟩
          have HXL := Aside0.mk (show XS.length ≤ 8000000 from by rw [← hXS]; have h1 := HSRC.out; have h2 := HL.out; simp only [List.length_append, List.length_cons, List.length_nil, bytesOf_length]; omega)
          have HXS := Aside0.mk hXS
          rw [hXS] at HO
          have HDL := Aside0.mk (show dat.length ≤ 100000 from HP.out.dat)
          have HBW := Aside0.mk (HB4.out.trans ((HB6.out.trans (HB.out.mono HB6.out.size)).mono HB4.out.size))
          have R7 := Aside0.mk (show ReadsInt wr .u8 A7 dat.length dat from Kd.reads_of_C (enc := Value.int .u8) (d := (0 : Int)) (h1 := fun _ => rfl) (HR.out.below HBW.out).r7)
          clear hpl hXS
          go_wp2_with (first | ((with_reducible refine gate_builtin (b := .append) (xs := #[.tmp 121, .tmp 123]) rfl ?_); at_builtin; refine print_append_row (w0 := w6) w6.heap.size rfl (.tmp 121) (.tmp 123) 22 5 .u8 1 rfl Try.underlying22 info5 (by decide) (.slice A9 n9 c9) XS dat A7 dat.length c7 rfl rfl ?aO ?aR ?aB ?aS ?aL ?_; (case aO => exact HO.out); (case aR => exact R7.out); (case aB => exact HB.out); (case aS => exact HB.out.size); (case aL => exact len_row HXL.out HDL.out); intro v13 w13 ho hb _ _; have HO13 := Aside0.mk ho; have HB13 := Aside0.mk hb; clear ho hb))
          go_ret2
          have HE := bytes_eq (p := ⟨cls, lab, hop, src, dst, ex, nxt, dat⟩) HHD.out HMM.out.1 HK00.out HXS.out
          exact ⟨⟨v13, rfl, by rw [HE]; exact own_less HO13.out (Nat.le_trans HB4.out.size HB6.out.size)⟩, HB4.out.trans ((HB6.out.trans (HB13.out.mono HB6.out.size)).mono HB4.out.size)⟩
end Go.Proofs.Ytpodidgdlcfaeaa.Ip6

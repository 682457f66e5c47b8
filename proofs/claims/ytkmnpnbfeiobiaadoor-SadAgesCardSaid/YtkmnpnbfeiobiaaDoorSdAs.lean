/- The law SadAges: its switch. -/
import Derived.Test.YtkmnpnbfeiobiaaDoorSdAp
import Derived.Test.YtkmnpnbfeiobiaaDoorSdFo
import Derived.Deep.DeepCutAuto
import Derived.Deep.CutBlock
namespace Go.Proofs.YtkmnpnbfeiobiaaDoor.Sd
open Go.RowKit Go.Proofs.YtkmnpnbfeiobiaaDoorW.PrintWords Go.Proofs.YtkmnpnbfeiobiaaDoorW.PrintLast Go.Proofs.YtkmnpnbfeiobiaaDoorW.PrintMore Go.Proofs.YtkmnpnbfeiobiaaDoor.QSa
open Go.Proofs.YtkmnpnbfeiobiaaDoor
set_option linter.unusedVariables false
set_option linter.unusedSimpArgs false
/-- The law's state. -/
structure AgS (w0 w : World) (q j : Nat) (es : List En) : Prop where
  one : One w0 w q es
  lst : Lst j es
theorem AgS.step {w0 w w' : World} {q j : Nat} {es : List En} (h : AgS w0 w q j es) (hb : Below w.heap.size w w') : AgS w0 w' q j es := ⟨h.one.step hb, h.lst⟩
theorem AgS.timed {w0 w : World} {q j : Nat} {es : List En} (h : AgS w0 w q j es) {now : Int} (h0 : 0 ≤ now ∧ now ≤ 1000000000) : ∀ e ∈ es, Timed e now := fun e he => (h.lst.good e he).timed (by omega) (by omega)
theorem AgS.len {w0 w : World} {q j : Nat} {es : List En} (h : AgS w0 w q j es) : es.length ≤ 1000 := Nat.le_trans h.lst.len (by decide)
/-- What a call leaves of the law's state. -/
structure AgR (w0 w w' : World) (q j : Nat) (es es' : List En) : Prop where
  st : AgS w0 w' q j es'
  grow : Grow es es'
  keep : ∀ (k : Nat) (cs : Array Value), w.heap[k]? = some (.cells cs 40 (0, 0)) → w'.heap[k]? = some (.cells cs 40 (0, 0))
theorem AgS.of {w0 w w' : World} {q j j' : Nat} {es es' : List En} {r : Value} {e : Ending} (h : AgS w0 w q j es) (hq : PgQ w0.heap.size q es' r w e w') (hl : Lst j' es') (hg : Grow es es') : e = .returned r ∧ AgR w0 w w' q j' es es' :=
  ⟨hq.1, ⟨(h.one.turn hq).2, hl⟩, hg, fun k cs hc => hq.2.2.keep hc (by unfold Ty.has; decide)⟩
theorem AgS.age {w0 w : World} {q j : Nat} {es : List En} (h : AgS w0 w q j es) {now : Int} (h0 : 0 ≤ now ∧ now ≤ 1000000000) {spi : Int} {out : Bool} {a c : Int} (hr : ageF es now spi out = (a, c)) :
    Calls Tryd.prog 17 #[.pointer (some ⟨q, 0, none⟩), .int .i64 now, .int .i64 spi, .bool out] w fun e w' => e = .returned (.tuple #[.int .i64 a, .int .i64 c]) ∧ AgR w0 w w' q j es es := by
  have hc := age_call h.one.sad h.one.laid h.len now spi out (h.timed h0)
  rw [hr] at hc
  exact hc.mono fun e w' hq => h.of hq h.lst (.refl _)
theorem AgS.pick {w0 w : World} {q j : Nat} {es : List En} (h : AgS w0 w q j es) {now : Int} (h0 : 0 ≤ now ∧ now ≤ 1000000000) {rule s c : Int} (hr : pickF es now rule = (s, c)) :
    Calls Tryd.prog 11 #[.pointer (some ⟨q, 0, none⟩), .int .i64 now, .int .i64 rule] w fun e w' => e = .returned (.tuple #[.int .i64 s, .int .i64 c]) ∧ AgR w0 w w' q j es es := by
  have hc := pick_call h.one.sad h.len now rule (h.timed h0)
  rw [hr] at hc
  exact hc.mono fun e w' hq => h.of hq h.lst (.refl _)
theorem AgS.look {w0 w : World} {q j : Nat} {es : List En} (h : AgS w0 w q j es) {now : Int} (h0 : 0 ≤ now ∧ now ≤ 1000000000) {spi low : Int} {x : S27} {k c : Int} (hr : lookF es now spi low = (x, k, c)) :
    Calls Tryd.prog 18 #[.pointer (some ⟨q, 0, none⟩), .int .i64 now, .int .i64 spi, .int .i64 low] w fun e w' => e = .returned (.tuple #[.agg #[.int .i64 x.f0.f0, .string x.f0.f1, .string x.f0.f2, .string x.f0.f3, .bool x.f0.f4, .int .i64 x.f0.f5, .int .i64 x.f1, .bool x.f2, .int .i64 x.f3, .int .i64 x.f4, .int .i64 x.f5, .int .i64 x.f6], .int .u64 k, .int .i64 c]) ∧ AgR w0 w w' q (j + 1) es es := by
  have hc := look_call h.one.sad h.one.laid h.len now spi low h.lst.good (by omega) (by omega)
  rw [hr] at hc
  exact hc.mono fun e w' hq => h.of hq h.lst.mono (.refl _)
theorem AgS.add {w0 w : World} {q j : Nat} {es es' : List En} (h : AgS w0 w q j es) {now : Int} (h0 : 0 ≤ now ∧ now ≤ 1000000000) {x : S27} {c : Int} (hr : addF es now x = (es', c)) :
    Calls Tryd.prog 10 #[.pointer (some ⟨q, 0, none⟩), .int .i64 now, .agg (#[.int .i64 x.f0.f0, .string x.f0.f1, .string x.f0.f2, .string x.f0.f3, .bool x.f0.f4, .int .i64 x.f0.f5, .int .i64 x.f1, .bool x.f2, .int .i64 x.f3, .int .i64 x.f4, .int .i64 x.f5, .int .i64 x.f6])] w fun e w' => e = .returned (.int .i64 c) ∧ AgR w0 w w' q (j + 1) es es' := by
  have hc := add_call h.one.sad h.len now x
  have hl := h.lst.add h0.1 h0.2 x
  rw [hr] at hc hl
  exact hc.mono fun e w' hq => h.of hq hl.1 hl.2
theorem AgS.send {w0 w : World} {q j : Nat} {es es' : List En} (h : AgS w0 w q j es) {now : Int} (h0 : 0 ≤ now ∧ now ≤ 1000000000) (hj : j ≤ 150) {spi : Int} {n : Int} (hn : n ≤ 1000000000) {x : S25} {k c : Int} (hr : sendF es now spi n = (es', x, k, c)) :
    Calls Tryd.prog 14 #[.pointer (some ⟨q, 0, none⟩), .int .i64 now, .int .i64 spi, .int .i64 n] w fun e w' => e = .returned (.tuple #[.agg #[.int .i64 x.f0, .string x.f1, .string x.f2, .string x.f3, .bool x.f4, .int .i64 x.f5], .int .u64 k, .int .i64 c]) ∧ AgR w0 w w' q (j + 1) es es' := by
  have hc := send_call (k := j) h.one.sad h.one.laid h.len now spi n hn (by omega) h.lst.good (by omega) (by omega)
  have hl := h.lst.send now spi hn
  rw [hr] at hc hl
  exact hc.mono fun e w' hq => h.of hq hl.1 hl.2
theorem AgS.take {w0 w : World} {q j : Nat} {es es' : List En} (h : AgS w0 w q j es) {now : Int} (h0 : 0 ≤ now ∧ now ≤ 1000000000) (hj : j ≤ 150) {spi : Int} {seq : Nat} (hs : seq < 18446744073709551616) {n : Int} (hn : n ≤ 1000000000) {c : Int} (hr : takeF es now spi seq n = (es', c)) :
    Calls Tryd.prog 16 #[.pointer (some ⟨q, 0, none⟩), .int .i64 now, .int .i64 spi, .int .u64 (seq : Int), .int .i64 n] w fun e w' => e = .returned (.int .i64 c) ∧ AgR w0 w w' q (j + 1) es es' := by
  have hc := take_call (k := j) h.one.sad h.one.laid h.len now spi seq n hn (by omega) hs h.lst.good (by omega) (by omega)
  have hl := h.lst.take now spi hs hn
  rw [hr] at hc hl
  exact hc.mono fun e w' hq => h.of hq hl.1 hl.2
theorem gen_world {P F : World → Prop} {w : World} (h : P w) (k : ∀ W, P W → F W) : F w := k w h
theorem AgR.step {w0 w w' w'' : World} {q j : Nat} {es es' : List En} (h : AgR w0 w w' q j es es') (hb : Below w'.heap.size w' w'') : AgR w0 w w'' q j es es' :=
  ⟨h.st.step hb, h.grow, fun k cs hc => (hb.block k (blk_lt (h.keep k cs hc))).trans (h.keep k cs hc)⟩
/-- A call's life, out of its block. -/
theorem load27c {W : World} {q : Nat} {x : S40} {t : TypeId} (h : W.heap[q]? = some (.cells (enc40 x).toArray t (0, 0))) : (loadVar 27 ⟨q, 8, none⟩).run Tryd.prog W = .ok (.agg #[.int .i64 x.f8.f0.f0, .string x.f8.f0.f1, .string x.f8.f0.f2, .string x.f8.f0.f3, .bool x.f8.f0.f4, .int .i64 x.f8.f0.f5, .int .i64 x.f8.f1, .bool x.f8.f2, .int .i64 x.f8.f3, .int .i64 x.f8.f4, .int .i64 x.f8.f5, .int .i64 x.f8.f6]) W := by
  refine load_blk h (enc27 x.f8) (fun j v hv => ?_) _ Tryd.underlying27 rfl isz27
  unfold enc27 at hv
  unfold enc40
  match j with
  | 0 | 1 | 2 | 3 | 4 | 5 | 6 | 7 | 8 | 9 | 10 | 11 => exact hv
  | j + 12 => simp at hv
/-- The switch, out of the function. -/
def findBlk : Code → Option Code
  | .block n c => if n = 2 then some (.block n c) else findBlk c
  | .loop c => findBlk c
  | .seq a b => match findBlk a with
    | some c => some c
    | none => findBlk b
  | .scope c => findBlk c
  | .cond _ a b => match findBlk a with
    | some c => some c
    | none => findBlk b
  | _ => none
noncomputable def swc : Code := ((Tryd.f5.body.bind findBlk).getD .skip)
/-- What the box of a call holds. -/
def BoxX (q8 : Nat) (CS : Array Value) (x : S40) (ob : Bool) (sq : Nat) : Prop := ∀ W : World, W.heap[q8]? = some (.cells CS 40 (0, 0)) → W.cell? ⟨q8, 0, none⟩ = some (.int .i64 x.f0) ∧ W.cell? ⟨q8, 1, none⟩ = some (.int .i64 x.f1) ∧ W.cell? ⟨q8, 2, none⟩ = some (.int .i64 x.f2) ∧ W.cell? ⟨q8, 4, none⟩ = some (.int .i64 x.f4) ∧ W.cell? ⟨q8, 5, none⟩ = some (.int .i64 x.f5) ∧ W.cell? ⟨q8, 6, none⟩ = some (.bool ob) ∧ W.cell? ⟨q8, 7, none⟩ = some (.int .u64 (sq : Int)) ∧ (loadVar 27 ⟨q8, 8, none⟩).run Tryd.prog W = .ok (.agg #[.int .i64 x.f8.f0.f0, .string x.f8.f0.f1, .string x.f8.f0.f2, .string x.f8.f0.f3, .bool x.f8.f0.f4, .int .i64 x.f8.f0.f5, .int .i64 x.f8.f1, .bool x.f8.f2, .int .i64 x.f8.f3, .int .i64 x.f8.f4, .int .i64 x.f8.f5, .int .i64 x.f8.f6]) W
set_option maxHeartbeats 6400000 in
set_option maxRecDepth 100000 in
theorem sw0_walk {w w3 : World} {q q8 j sq : Nat} {es : List En} {x : S40} {CS : Array Value} {mx a e1 : Int} {ob : Bool} (hj150 : j ≤ 150) (HMX : Aside0 (0 ≤ mx ∧ mx ≤ 1000000000)) (HFX : Aside0 (x.f4 ≤ 1000000000)) (HSQ : Aside0 (sq < 18446744073709551616)) (HE : Aside0 (e1 = 0 ∨ e1 = 6)) (HAG : Aside0 (ageF es mx x.f2 ob = (a, e1))) (Z : Aside0 (BoxX q8 CS x ob sq)) (BK3 : Aside0 (w3.heap[q8]? = some (.cells CS 40 (0, 0)))) (S3 : Aside0 (AgS w w3 q j es))
    {z0 z1 z2 z3 z4 z7 z11 z12 z13 z14 z15 z16 z17 z18 z19 z20 z21 z22 z23 z24 z25 z26 z27 z28 z29 z30 z31 z32 z33 z34 z35 z36 z37 z38 z39 z40 z41 z42 z43 z44 z45 z46 z47 z48 z49 z50 z51 z52 z53 z54 z56 z57 z58 z59 z60 z61 z62 z63 z64 z65 z66 z67 z68 z69 z70 z71 z72 z73 z74 z75 z76 z77 z78 z79 z80 z81 z82 z83 z84 z85 z86 z87 z88 z89 z90 z91 z92 z93 z94 z95 z96 z97 z98 z99 z100 z101 z102 z103 z104 z105 z106 z107 z108 z109 z110 z111 z112 z113 z114 z115 z116 z117 z118 z119 z120 z121 z122 z123 z124 z125 z126 z127 z128 z129 z130 z131 z132 z133 z134 z135 z136 z137 z138 z139 z140 z141 z142 z143 z144 z145 z146 z147 z148 z149 z150 z151 z152 z153 z154 z155 z156 z157 z158 z159 z160 z161 z162 z163 z164 z165 z166 z167 z168 z169 z170 z171 z172 z173 z174 z175 z176 z177 z178 z179 z180 z181 z182 z183 z184 z185 z186 z187 z188 z189 z190 z191 z192 z193 z194 z195 z196 z197 : Value} {Q : Exit → Act → World → Prop}
    (hQ : ∀ (v11 v12 v13 v14 v15 v16 v17 v56 v57 v58 v59 v60 v61 v62 v63 v64 v65 v66 v67 v68 v69 v70 v71 v72 v73 v74 v75 v76 v77 v78 v79 v80 v81 v82 v83 v84 v85 v86 v87 v88 v89 v90 v91 v92 v93 v94 v95 v96 v97 v98 v99 v100 v101 v102 v103 v104 v105 v106 v107 v108 v109 v110 v111 v112 v113 v114 v115 v116 v117 v118 v119 v120 v121 v122 v123 v124 v125 v126 v127 v128 v129 v130 v131 v132 v133 v134 v135 v136 v137 v138 v139 v140 v141 v142 v143 : Value) (W : World), (∃ es', AgR w w3 W q (j + 1) es es') → Q .normal ⟨#[z0, z1, z2, z3, z4, .pointer (some ⟨q, 0, none⟩), .int .i64 mx, z7, .pointer (some ⟨q8, 0, none⟩), .int .i64 a, .int .i64 e1, v11, v12, v13, v14, v15, v16, v17, z18, z19, z20, z21, z22, z23, z24, z25, z26, z27, z28, z29, z30, z31, z32, z33, z34, z35, z36, z37, z38, z39, z40, z41, z42, z43, z44, z45, z46, z47, z48, z49, z50, z51, z52, z53, z54, .int .i64 x.f0, v56, v57, v58, v59, v60, v61, v62, v63, v64, v65, v66, v67, v68, v69, v70, v71, v72, v73, v74, v75, v76, v77, v78, v79, v80, v81, v82, v83, v84, v85, v86, v87, v88, v89, v90, v91, v92, v93, v94, v95, v96, v97, v98, v99, v100, v101, v102, v103, v104, v105, v106, v107, v108, v109, v110, v111, v112, v113, v114, v115, v116, v117, v118, v119, v120, v121, v122, v123, v124, v125, v126, v127, v128, v129, v130, v131, v132, v133, v134, v135, v136, v137, v138, v139, v140, v141, v142, v143, z144, z145, z146, z147, z148, z149, z150, z151, z152, z153, z154, z155, z156, z157, z158, z159, z160, z161, z162, z163, z164, z165, z166, z167, z168, z169, z170, z171, z172, z173, z174, z175, z176, z177, z178, z179, z180, z181, z182, z183, z184, z185, z186, z187, z188, z189, z190, z191, z192, z193, z194, z195, z196, z197], []⟩ W) (hc : x.f0 = 0) :
    Code.wp Tryd.prog swc Q ⟨#[z0, z1, z2, z3, z4, .pointer (some ⟨q, 0, none⟩), .int .i64 mx, z7, .pointer (some ⟨q8, 0, none⟩), .int .i64 a, .int .i64 e1, z11, z12, z13, z14, z15, z16, z17, z18, z19, z20, z21, z22, z23, z24, z25, z26, z27, z28, z29, z30, z31, z32, z33, z34, z35, z36, z37, z38, z39, z40, z41, z42, z43, z44, z45, z46, z47, z48, z49, z50, z51, z52, z53, z54, .int .i64 x.f0, z56, z57, z58, z59, z60, z61, z62, z63, z64, z65, z66, z67, z68, z69, z70, z71, z72, z73, z74, z75, z76, z77, z78, z79, z80, z81, z82, z83, z84, z85, z86, z87, z88, z89, z90, z91, z92, z93, z94, z95, z96, z97, z98, z99, z100, z101, z102, z103, z104, z105, z106, z107, z108, z109, z110, z111, z112, z113, z114, z115, z116, z117, z118, z119, z120, z121, z122, z123, z124, z125, z126, z127, z128, z129, z130, z131, z132, z133, z134, z135, z136, z137, z138, z139, z140, z141, z142, z143, z144, z145, z146, z147, z148, z149, z150, z151, z152, z153, z154, z155, z156, z157, z158, z159, z160, z161, z162, z163, z164, z165, z166, z167, z168, z169, z170, z171, z172, z173, z174, z175, z176, z177, z178, z179, z180, z181, z182, z183, z184, z185, z186, z187, z188, z189, z190, z191, z192, z193, z194, z195, z196, z197], []⟩ w3 := by
  conv => arg 2; whnf
  have d0 : (x.f0 == 0) = true := by rw [beq_iff_eq]; exact hc
  clear hc
  obtain ⟨y0, y1, y2, y4, y5, y6, y7, y8⟩ := Z.out w3 BK3.out
  obtain ⟨es', cc, hr⟩ : ∃ es' cc, addF es mx x.f8 = (es', cc) := ⟨_, _, rfl⟩
  have AD := Aside0.mk (S3.out.add HMX.out hr)
  clear hr
  go_wp2_with ((with_reducible refine gate_dst (N := 61) rfl ?_); refine Kd.event_run (v := .agg #[.int .i64 x.f8.f0.f0, .string x.f8.f0.f1, .string x.f8.f0.f2, .string x.f8.f0.f3, .bool x.f8.f0.f4, .int .i64 x.f8.f0.f5, .int .i64 x.f8.f1, .bool x.f8.f2, .int .i64 x.f8.f3, .int .i64 x.f8.f4, .int .i64 x.f8.f5, .int .i64 x.f8.f6]) (w1 := w3) ?hg (load_runA 27 (.tmp 60) ⟨q8, 8, none⟩ #[.int .i64 x.f8.f0.f0, .string x.f8.f0.f1, .string x.f8.f0.f2, .string x.f8.f0.f3, .bool x.f8.f0.f4, .int .i64 x.f8.f0.f5, .int .i64 x.f8.f1, .bool x.f8.f2, .int .i64 x.f8.f3, .int .i64 x.f8.f4, .int .i64 x.f8.f5, .int .i64 x.f8.f6] ?ho ?hx y8) ?_; (case hg => rfl); (case ho => rfl); (case hx => rfl); clear y8)
  refine AD.out.mono ?_
  rintro e w4 ⟨rfl, h⟩
  have S4 := Aside0.mk h
  clear h
  go_wp2_with (fail)
  first | exact ⟨_, S4.out⟩ | exact hQ _ _ _ _ _ _ _ _ _ _ _ _ _ _ _ _ _ _ _ _ _ _ _ _ _ _ _ _ _ _ _ _ _ _ _ _ _ _ _ _ _ _ _ _ _ _ _ _ _ _ _ _ _ _ _ _ _ _ _ _ _ _ _ _ _ _ _ _ _ _ _ _ _ _ _ _ _ _ _ _ _ _ _ _ _ _ _ _ _ _ _ _ _ _ _ _ ⟨_, S4.out⟩
set_option maxHeartbeats 6400000 in
set_option maxRecDepth 100000 in
theorem sw4_walk {w w3 : World} {q q8 j sq : Nat} {es : List En} {x : S40} {CS : Array Value} {mx a e1 : Int} {ob : Bool} (hj150 : j ≤ 150) (HMX : Aside0 (0 ≤ mx ∧ mx ≤ 1000000000)) (HFX : Aside0 (x.f4 ≤ 1000000000)) (HSQ : Aside0 (sq < 18446744073709551616)) (HE : Aside0 (e1 = 0 ∨ e1 = 6)) (HAG : Aside0 (ageF es mx x.f2 ob = (a, e1))) (Z : Aside0 (BoxX q8 CS x ob sq)) (BK3 : Aside0 (w3.heap[q8]? = some (.cells CS 40 (0, 0)))) (S3 : Aside0 (AgS w w3 q j es))
    {z0 z1 z2 z3 z4 z7 z11 z12 z13 z14 z15 z16 z17 z18 z19 z20 z21 z22 z23 z24 z25 z26 z27 z28 z29 z30 z31 z32 z33 z34 z35 z36 z37 z38 z39 z40 z41 z42 z43 z44 z45 z46 z47 z48 z49 z50 z51 z52 z53 z54 z56 z57 z58 z59 z60 z61 z62 z63 z64 z65 z66 z67 z68 z69 z70 z71 z72 z73 z74 z75 z76 z77 z78 z79 z80 z81 z82 z83 z84 z85 z86 z87 z88 z89 z90 z91 z92 z93 z94 z95 z96 z97 z98 z99 z100 z101 z102 z103 z104 z105 z106 z107 z108 z109 z110 z111 z112 z113 z114 z115 z116 z117 z118 z119 z120 z121 z122 z123 z124 z125 z126 z127 z128 z129 z130 z131 z132 z133 z134 z135 z136 z137 z138 z139 z140 z141 z142 z143 z144 z145 z146 z147 z148 z149 z150 z151 z152 z153 z154 z155 z156 z157 z158 z159 z160 z161 z162 z163 z164 z165 z166 z167 z168 z169 z170 z171 z172 z173 z174 z175 z176 z177 z178 z179 z180 z181 z182 z183 z184 z185 z186 z187 z188 z189 z190 z191 z192 z193 z194 z195 z196 z197 : Value} {Q : Exit → Act → World → Prop}
    (hQ : ∀ (v11 v12 v13 v14 v15 v16 v17 v56 v57 v58 v59 v60 v61 v62 v63 v64 v65 v66 v67 v68 v69 v70 v71 v72 v73 v74 v75 v76 v77 v78 v79 v80 v81 v82 v83 v84 v85 v86 v87 v88 v89 v90 v91 v92 v93 v94 v95 v96 v97 v98 v99 v100 v101 v102 v103 v104 v105 v106 v107 v108 v109 v110 v111 v112 v113 v114 v115 v116 v117 v118 v119 v120 v121 v122 v123 v124 v125 v126 v127 v128 v129 v130 v131 v132 v133 v134 v135 v136 v137 v138 v139 v140 v141 v142 v143 : Value) (W : World), (∃ es', AgR w w3 W q (j + 1) es es') → Q .normal ⟨#[z0, z1, z2, z3, z4, .pointer (some ⟨q, 0, none⟩), .int .i64 mx, z7, .pointer (some ⟨q8, 0, none⟩), .int .i64 a, .int .i64 e1, v11, v12, v13, v14, v15, v16, v17, z18, z19, z20, z21, z22, z23, z24, z25, z26, z27, z28, z29, z30, z31, z32, z33, z34, z35, z36, z37, z38, z39, z40, z41, z42, z43, z44, z45, z46, z47, z48, z49, z50, z51, z52, z53, z54, .int .i64 x.f0, v56, v57, v58, v59, v60, v61, v62, v63, v64, v65, v66, v67, v68, v69, v70, v71, v72, v73, v74, v75, v76, v77, v78, v79, v80, v81, v82, v83, v84, v85, v86, v87, v88, v89, v90, v91, v92, v93, v94, v95, v96, v97, v98, v99, v100, v101, v102, v103, v104, v105, v106, v107, v108, v109, v110, v111, v112, v113, v114, v115, v116, v117, v118, v119, v120, v121, v122, v123, v124, v125, v126, v127, v128, v129, v130, v131, v132, v133, v134, v135, v136, v137, v138, v139, v140, v141, v142, v143, z144, z145, z146, z147, z148, z149, z150, z151, z152, z153, z154, z155, z156, z157, z158, z159, z160, z161, z162, z163, z164, z165, z166, z167, z168, z169, z170, z171, z172, z173, z174, z175, z176, z177, z178, z179, z180, z181, z182, z183, z184, z185, z186, z187, z188, z189, z190, z191, z192, z193, z194, z195, z196, z197], []⟩ W) (hc : x.f0 = 4) :
    Code.wp Tryd.prog swc Q ⟨#[z0, z1, z2, z3, z4, .pointer (some ⟨q, 0, none⟩), .int .i64 mx, z7, .pointer (some ⟨q8, 0, none⟩), .int .i64 a, .int .i64 e1, z11, z12, z13, z14, z15, z16, z17, z18, z19, z20, z21, z22, z23, z24, z25, z26, z27, z28, z29, z30, z31, z32, z33, z34, z35, z36, z37, z38, z39, z40, z41, z42, z43, z44, z45, z46, z47, z48, z49, z50, z51, z52, z53, z54, .int .i64 x.f0, z56, z57, z58, z59, z60, z61, z62, z63, z64, z65, z66, z67, z68, z69, z70, z71, z72, z73, z74, z75, z76, z77, z78, z79, z80, z81, z82, z83, z84, z85, z86, z87, z88, z89, z90, z91, z92, z93, z94, z95, z96, z97, z98, z99, z100, z101, z102, z103, z104, z105, z106, z107, z108, z109, z110, z111, z112, z113, z114, z115, z116, z117, z118, z119, z120, z121, z122, z123, z124, z125, z126, z127, z128, z129, z130, z131, z132, z133, z134, z135, z136, z137, z138, z139, z140, z141, z142, z143, z144, z145, z146, z147, z148, z149, z150, z151, z152, z153, z154, z155, z156, z157, z158, z159, z160, z161, z162, z163, z164, z165, z166, z167, z168, z169, z170, z171, z172, z173, z174, z175, z176, z177, z178, z179, z180, z181, z182, z183, z184, z185, z186, z187, z188, z189, z190, z191, z192, z193, z194, z195, z196, z197], []⟩ w3 := by
  conv => arg 2; whnf
  have d0 : (x.f0 == 0) = false := by rw [beq_eq_false_iff_ne]; omega
  have d4 : (x.f0 == 4) = true := by rw [beq_iff_eq]; exact hc
  clear hc
  obtain ⟨y0, y1, y2, y4, y5, y6, y7, y8⟩ := Z.out w3 BK3.out
  clear y8
  obtain ⟨es', s25, kk, cc, hr⟩ : ∃ es' s k cc, sendF es mx x.f2 x.f4 = (es', s, k, cc) := ⟨_, _, _, _, rfl⟩
  have AD := Aside0.mk (S3.out.send HMX.out hj150 HFX.out hr)
  have HH := Aside0.mk (fun (h : ageF es mx x.f2 true = (2, 0)) => (show cc ≠ 0 from by have := send_hard h x.f4; rw [hr] at this; exact this))
  clear hr
  by_cases ha2 : a = 2
  · subst ha2
    cases ob
    · go_wp2_with (fail)
      refine AD.out.mono ?_
      rintro e w4 ⟨rfl, h⟩
      have S4 := Aside0.mk h
      clear h
      go_upto_region 18 with (fail)
      refine gen_world (F := fun W => Code.wp _ _ _ _ W) (P := fun W => AgR w w3 W q (j + 1) es es') (by first | exact S4.out | exact S4.out.step (below_alloc (Below.refl _ _) _)) ?_
      intro w5 h5
      have S5 := Aside0.mk h5
      clear h5 y0 y1 y2 y4 y5 y6 y7
      obtain ⟨y0, y1, y2, y4, y5, y6, y7, y8⟩ := Z.out w5 (S5.out.keep _ _ BK3.out)
      clear y8
      go_wp2_with (fail)
      first | exact ⟨_, S5.out⟩ | exact hQ _ _ _ _ _ _ _ _ _ _ _ _ _ _ _ _ _ _ _ _ _ _ _ _ _ _ _ _ _ _ _ _ _ _ _ _ _ _ _ _ _ _ _ _ _ _ _ _ _ _ _ _ _ _ _ _ _ _ _ _ _ _ _ _ _ _ _ _ _ _ _ _ _ _ _ _ _ _ _ _ _ _ _ _ _ _ _ _ _ _ _ _ _ _ _ _ ⟨_, S5.out⟩
    · rcases HE.out with rfl | rfl
      · have hccb : (cc == 0) = false := by rw [beq_eq_false_iff_ne]; exact HH.out HAG.out
        go_wp2_with (fail)
        refine AD.out.mono ?_
        rintro e w4 ⟨rfl, h⟩
        have S4 := Aside0.mk h
        clear h
        go_upto_region 18 with (fail)
        refine gen_world (F := fun W => Code.wp _ _ _ _ W) (P := fun W => AgR w w3 W q (j + 1) es es') (by first | exact S4.out | exact S4.out.step (below_alloc (Below.refl _ _) _)) ?_
        intro w5 h5
        have S5 := Aside0.mk h5
        clear h5 y0 y1 y2 y4 y5 y6 y7
        obtain ⟨y0, y1, y2, y4, y5, y6, y7, y8⟩ := Z.out w5 (S5.out.keep _ _ BK3.out)
        clear y8
        go_wp2_with (fail)
        first | exact ⟨_, S5.out⟩ | exact hQ _ _ _ _ _ _ _ _ _ _ _ _ _ _ _ _ _ _ _ _ _ _ _ _ _ _ _ _ _ _ _ _ _ _ _ _ _ _ _ _ _ _ _ _ _ _ _ _ _ _ _ _ _ _ _ _ _ _ _ _ _ _ _ _ _ _ _ _ _ _ _ _ _ _ _ _ _ _ _ _ _ _ _ _ _ _ _ _ _ _ _ _ _ _ _ _ ⟨_, S5.out⟩
      · go_wp2_with (fail)
        refine AD.out.mono ?_
        rintro e w4 ⟨rfl, h⟩
        have S4 := Aside0.mk h
        clear h
        go_upto_region 18 with (fail)
        refine gen_world (F := fun W => Code.wp _ _ _ _ W) (P := fun W => AgR w w3 W q (j + 1) es es') (by first | exact S4.out | exact S4.out.step (below_alloc (Below.refl _ _) _)) ?_
        intro w5 h5
        have S5 := Aside0.mk h5
        clear h5 y0 y1 y2 y4 y5 y6 y7
        obtain ⟨y0, y1, y2, y4, y5, y6, y7, y8⟩ := Z.out w5 (S5.out.keep _ _ BK3.out)
        clear y8
        go_wp2_with (fail)
        first | exact ⟨_, S5.out⟩ | exact hQ _ _ _ _ _ _ _ _ _ _ _ _ _ _ _ _ _ _ _ _ _ _ _ _ _ _ _ _ _ _ _ _ _ _ _ _ _ _ _ _ _ _ _ _ _ _ _ _ _ _ _ _ _ _ _ _ _ _ _ _ _ _ _ _ _ _ _ _ _ _ _ _ _ _ _ _ _ _ _ _ _ _ _ _ _ _ _ _ _ _ _ _ _ _ _ _ ⟨_, S5.out⟩
  · have ha2b : (a == 2) = false := by rw [beq_eq_false_iff_ne]; exact ha2
    clear ha2
    go_wp2_with (fail)
    refine AD.out.mono ?_
    rintro e w4 ⟨rfl, h⟩
    have S4 := Aside0.mk h
    clear h
    go_upto_region 18 with (fail)
    refine gen_world (F := fun W => Code.wp _ _ _ _ W) (P := fun W => AgR w w3 W q (j + 1) es es') (by first | exact S4.out | exact S4.out.step (below_alloc (Below.refl _ _) _)) ?_
    intro w5 h5
    have S5 := Aside0.mk h5
    clear h5 y0 y1 y2 y4 y5 y6 y7
    obtain ⟨y0, y1, y2, y4, y5, y6, y7, y8⟩ := Z.out w5 (S5.out.keep _ _ BK3.out)
    clear y8
    go_wp2_with (fail)
    first | exact ⟨_, S5.out⟩ | exact hQ _ _ _ _ _ _ _ _ _ _ _ _ _ _ _ _ _ _ _ _ _ _ _ _ _ _ _ _ _ _ _ _ _ _ _ _ _ _ _ _ _ _ _ _ _ _ _ _ _ _ _ _ _ _ _ _ _ _ _ _ _ _ _ _ _ _ _ _ _ _ _ _ _ _ _ _ _ _ _ _ _ _ _ _ _ _ _ _ _ _ _ _ _ _ _ _ ⟨_, S5.out⟩
set_option maxHeartbeats 6400000 in
set_option maxRecDepth 100000 in
theorem sw5_walk {w w3 : World} {q q8 j sq : Nat} {es : List En} {x : S40} {CS : Array Value} {mx a e1 : Int} {ob : Bool} (hj150 : j ≤ 150) (HMX : Aside0 (0 ≤ mx ∧ mx ≤ 1000000000)) (HFX : Aside0 (x.f4 ≤ 1000000000)) (HSQ : Aside0 (sq < 18446744073709551616)) (HE : Aside0 (e1 = 0 ∨ e1 = 6)) (HAG : Aside0 (ageF es mx x.f2 ob = (a, e1))) (Z : Aside0 (BoxX q8 CS x ob sq)) (BK3 : Aside0 (w3.heap[q8]? = some (.cells CS 40 (0, 0)))) (S3 : Aside0 (AgS w w3 q j es))
    {z0 z1 z2 z3 z4 z7 z11 z12 z13 z14 z15 z16 z17 z18 z19 z20 z21 z22 z23 z24 z25 z26 z27 z28 z29 z30 z31 z32 z33 z34 z35 z36 z37 z38 z39 z40 z41 z42 z43 z44 z45 z46 z47 z48 z49 z50 z51 z52 z53 z54 z56 z57 z58 z59 z60 z61 z62 z63 z64 z65 z66 z67 z68 z69 z70 z71 z72 z73 z74 z75 z76 z77 z78 z79 z80 z81 z82 z83 z84 z85 z86 z87 z88 z89 z90 z91 z92 z93 z94 z95 z96 z97 z98 z99 z100 z101 z102 z103 z104 z105 z106 z107 z108 z109 z110 z111 z112 z113 z114 z115 z116 z117 z118 z119 z120 z121 z122 z123 z124 z125 z126 z127 z128 z129 z130 z131 z132 z133 z134 z135 z136 z137 z138 z139 z140 z141 z142 z143 z144 z145 z146 z147 z148 z149 z150 z151 z152 z153 z154 z155 z156 z157 z158 z159 z160 z161 z162 z163 z164 z165 z166 z167 z168 z169 z170 z171 z172 z173 z174 z175 z176 z177 z178 z179 z180 z181 z182 z183 z184 z185 z186 z187 z188 z189 z190 z191 z192 z193 z194 z195 z196 z197 : Value} {Q : Exit → Act → World → Prop}
    (hQ : ∀ (v11 v12 v13 v14 v15 v16 v17 v56 v57 v58 v59 v60 v61 v62 v63 v64 v65 v66 v67 v68 v69 v70 v71 v72 v73 v74 v75 v76 v77 v78 v79 v80 v81 v82 v83 v84 v85 v86 v87 v88 v89 v90 v91 v92 v93 v94 v95 v96 v97 v98 v99 v100 v101 v102 v103 v104 v105 v106 v107 v108 v109 v110 v111 v112 v113 v114 v115 v116 v117 v118 v119 v120 v121 v122 v123 v124 v125 v126 v127 v128 v129 v130 v131 v132 v133 v134 v135 v136 v137 v138 v139 v140 v141 v142 v143 : Value) (W : World), (∃ es', AgR w w3 W q (j + 1) es es') → Q .normal ⟨#[z0, z1, z2, z3, z4, .pointer (some ⟨q, 0, none⟩), .int .i64 mx, z7, .pointer (some ⟨q8, 0, none⟩), .int .i64 a, .int .i64 e1, v11, v12, v13, v14, v15, v16, v17, z18, z19, z20, z21, z22, z23, z24, z25, z26, z27, z28, z29, z30, z31, z32, z33, z34, z35, z36, z37, z38, z39, z40, z41, z42, z43, z44, z45, z46, z47, z48, z49, z50, z51, z52, z53, z54, .int .i64 x.f0, v56, v57, v58, v59, v60, v61, v62, v63, v64, v65, v66, v67, v68, v69, v70, v71, v72, v73, v74, v75, v76, v77, v78, v79, v80, v81, v82, v83, v84, v85, v86, v87, v88, v89, v90, v91, v92, v93, v94, v95, v96, v97, v98, v99, v100, v101, v102, v103, v104, v105, v106, v107, v108, v109, v110, v111, v112, v113, v114, v115, v116, v117, v118, v119, v120, v121, v122, v123, v124, v125, v126, v127, v128, v129, v130, v131, v132, v133, v134, v135, v136, v137, v138, v139, v140, v141, v142, v143, z144, z145, z146, z147, z148, z149, z150, z151, z152, z153, z154, z155, z156, z157, z158, z159, z160, z161, z162, z163, z164, z165, z166, z167, z168, z169, z170, z171, z172, z173, z174, z175, z176, z177, z178, z179, z180, z181, z182, z183, z184, z185, z186, z187, z188, z189, z190, z191, z192, z193, z194, z195, z196, z197], []⟩ W) (hc : x.f0 = 5) :
    Code.wp Tryd.prog swc Q ⟨#[z0, z1, z2, z3, z4, .pointer (some ⟨q, 0, none⟩), .int .i64 mx, z7, .pointer (some ⟨q8, 0, none⟩), .int .i64 a, .int .i64 e1, z11, z12, z13, z14, z15, z16, z17, z18, z19, z20, z21, z22, z23, z24, z25, z26, z27, z28, z29, z30, z31, z32, z33, z34, z35, z36, z37, z38, z39, z40, z41, z42, z43, z44, z45, z46, z47, z48, z49, z50, z51, z52, z53, z54, .int .i64 x.f0, z56, z57, z58, z59, z60, z61, z62, z63, z64, z65, z66, z67, z68, z69, z70, z71, z72, z73, z74, z75, z76, z77, z78, z79, z80, z81, z82, z83, z84, z85, z86, z87, z88, z89, z90, z91, z92, z93, z94, z95, z96, z97, z98, z99, z100, z101, z102, z103, z104, z105, z106, z107, z108, z109, z110, z111, z112, z113, z114, z115, z116, z117, z118, z119, z120, z121, z122, z123, z124, z125, z126, z127, z128, z129, z130, z131, z132, z133, z134, z135, z136, z137, z138, z139, z140, z141, z142, z143, z144, z145, z146, z147, z148, z149, z150, z151, z152, z153, z154, z155, z156, z157, z158, z159, z160, z161, z162, z163, z164, z165, z166, z167, z168, z169, z170, z171, z172, z173, z174, z175, z176, z177, z178, z179, z180, z181, z182, z183, z184, z185, z186, z187, z188, z189, z190, z191, z192, z193, z194, z195, z196, z197], []⟩ w3 := by
  conv => arg 2; whnf
  have d0 : (x.f0 == 0) = false := by rw [beq_eq_false_iff_ne]; omega
  have d4 : (x.f0 == 4) = false := by rw [beq_eq_false_iff_ne]; omega
  have d5 : (x.f0 == 5) = true := by rw [beq_iff_eq]; exact hc
  clear hc
  obtain ⟨y0, y1, y2, y4, y5, y6, y7, y8⟩ := Z.out w3 BK3.out
  clear y8
  obtain ⟨s27, kk, cc, hr⟩ : ∃ s k cc, lookF es mx x.f2 x.f5 = (s, k, cc) := ⟨_, _, _, rfl⟩
  have AD := Aside0.mk (S3.out.look HMX.out hr)
  have HH := Aside0.mk (fun (h : ageF es mx x.f2 false = (2, 0)) => (show cc = 171 from by have := look_hard h x.f5; rw [hr] at this; exact this))
  clear hr
  by_cases ha2 : a = 2
  · subst ha2
    cases ob
    · rcases HE.out with rfl | rfl
      · obtain rfl := HH.out HAG.out
        go_wp2_with (fail)
        refine AD.out.mono ?_
        rintro e w4 ⟨rfl, h⟩
        have S4 := Aside0.mk h
        clear h
        go_upto_region 22 with (fail)
        refine gen_world (F := fun W => Code.wp _ _ _ _ W) (P := fun W => AgR w w3 W q (j + 1) es es) (by first | exact S4.out | exact S4.out.step (below_alloc (Below.refl _ _) _)) ?_
        intro w5 h5
        have S5 := Aside0.mk h5
        clear h5 y0 y1 y2 y4 y5 y6 y7
        obtain ⟨y0, y1, y2, y4, y5, y6, y7, y8⟩ := Z.out w5 (S5.out.keep _ _ BK3.out)
        clear y8
        go_wp2_with (fail)
        first | exact ⟨_, S5.out⟩ | exact hQ _ _ _ _ _ _ _ _ _ _ _ _ _ _ _ _ _ _ _ _ _ _ _ _ _ _ _ _ _ _ _ _ _ _ _ _ _ _ _ _ _ _ _ _ _ _ _ _ _ _ _ _ _ _ _ _ _ _ _ _ _ _ _ _ _ _ _ _ _ _ _ _ _ _ _ _ _ _ _ _ _ _ _ _ _ _ _ _ _ _ _ _ _ _ _ _ ⟨_, S5.out⟩
      · go_wp2_with (fail)
        refine AD.out.mono ?_
        rintro e w4 ⟨rfl, h⟩
        have S4 := Aside0.mk h
        clear h
        go_upto_region 22 with (fail)
        refine gen_world (F := fun W => Code.wp _ _ _ _ W) (P := fun W => AgR w w3 W q (j + 1) es es) (by first | exact S4.out | exact S4.out.step (below_alloc (Below.refl _ _) _)) ?_
        intro w5 h5
        have S5 := Aside0.mk h5
        clear h5 y0 y1 y2 y4 y5 y6 y7
        obtain ⟨y0, y1, y2, y4, y5, y6, y7, y8⟩ := Z.out w5 (S5.out.keep _ _ BK3.out)
        clear y8
        go_wp2_with (fail)
        first | exact ⟨_, S5.out⟩ | exact hQ _ _ _ _ _ _ _ _ _ _ _ _ _ _ _ _ _ _ _ _ _ _ _ _ _ _ _ _ _ _ _ _ _ _ _ _ _ _ _ _ _ _ _ _ _ _ _ _ _ _ _ _ _ _ _ _ _ _ _ _ _ _ _ _ _ _ _ _ _ _ _ _ _ _ _ _ _ _ _ _ _ _ _ _ _ _ _ _ _ _ _ _ _ _ _ _ ⟨_, S5.out⟩
    · go_wp2_with (fail)
      refine AD.out.mono ?_
      rintro e w4 ⟨rfl, h⟩
      have S4 := Aside0.mk h
      clear h
      go_upto_region 22 with (fail)
      refine gen_world (F := fun W => Code.wp _ _ _ _ W) (P := fun W => AgR w w3 W q (j + 1) es es) (by first | exact S4.out | exact S4.out.step (below_alloc (Below.refl _ _) _)) ?_
      intro w5 h5
      have S5 := Aside0.mk h5
      clear h5 y0 y1 y2 y4 y5 y6 y7
      obtain ⟨y0, y1, y2, y4, y5, y6, y7, y8⟩ := Z.out w5 (S5.out.keep _ _ BK3.out)
      clear y8
      go_wp2_with (fail)
      first | exact ⟨_, S5.out⟩ | exact hQ _ _ _ _ _ _ _ _ _ _ _ _ _ _ _ _ _ _ _ _ _ _ _ _ _ _ _ _ _ _ _ _ _ _ _ _ _ _ _ _ _ _ _ _ _ _ _ _ _ _ _ _ _ _ _ _ _ _ _ _ _ _ _ _ _ _ _ _ _ _ _ _ _ _ _ _ _ _ _ _ _ _ _ _ _ _ _ _ _ _ _ _ _ _ _ _ ⟨_, S5.out⟩
  · have ha2b : (a == 2) = false := by rw [beq_eq_false_iff_ne]; exact ha2
    clear ha2
    go_wp2_with (fail)
    refine AD.out.mono ?_
    rintro e w4 ⟨rfl, h⟩
    have S4 := Aside0.mk h
    clear h
    go_upto_region 22 with (fail)
    refine gen_world (F := fun W => Code.wp _ _ _ _ W) (P := fun W => AgR w w3 W q (j + 1) es es) (by first | exact S4.out | exact S4.out.step (below_alloc (Below.refl _ _) _)) ?_
    intro w5 h5
    have S5 := Aside0.mk h5
    clear h5 y0 y1 y2 y4 y5 y6 y7
    obtain ⟨y0, y1, y2, y4, y5, y6, y7, y8⟩ := Z.out w5 (S5.out.keep _ _ BK3.out)
    clear y8
    go_wp2_with (fail)
    first | exact ⟨_, S5.out⟩ | exact hQ _ _ _ _ _ _ _ _ _ _ _ _ _ _ _ _ _ _ _ _ _ _ _ _ _ _ _ _ _ _ _ _ _ _ _ _ _ _ _ _ _ _ _ _ _ _ _ _ _ _ _ _ _ _ _ _ _ _ _ _ _ _ _ _ _ _ _ _ _ _ _ _ _ _ _ _ _ _ _ _ _ _ _ _ _ _ _ _ _ _ _ _ _ _ _ _ ⟨_, S5.out⟩
set_option maxHeartbeats 6400000 in
set_option maxRecDepth 100000 in
theorem sw6_walk {w w3 : World} {q q8 j sq : Nat} {es : List En} {x : S40} {CS : Array Value} {mx a e1 : Int} {ob : Bool} (hj150 : j ≤ 150) (HMX : Aside0 (0 ≤ mx ∧ mx ≤ 1000000000)) (HFX : Aside0 (x.f4 ≤ 1000000000)) (HSQ : Aside0 (sq < 18446744073709551616)) (HE : Aside0 (e1 = 0 ∨ e1 = 6)) (HAG : Aside0 (ageF es mx x.f2 ob = (a, e1))) (Z : Aside0 (BoxX q8 CS x ob sq)) (BK3 : Aside0 (w3.heap[q8]? = some (.cells CS 40 (0, 0)))) (S3 : Aside0 (AgS w w3 q j es))
    {z0 z1 z2 z3 z4 z7 z11 z12 z13 z14 z15 z16 z17 z18 z19 z20 z21 z22 z23 z24 z25 z26 z27 z28 z29 z30 z31 z32 z33 z34 z35 z36 z37 z38 z39 z40 z41 z42 z43 z44 z45 z46 z47 z48 z49 z50 z51 z52 z53 z54 z56 z57 z58 z59 z60 z61 z62 z63 z64 z65 z66 z67 z68 z69 z70 z71 z72 z73 z74 z75 z76 z77 z78 z79 z80 z81 z82 z83 z84 z85 z86 z87 z88 z89 z90 z91 z92 z93 z94 z95 z96 z97 z98 z99 z100 z101 z102 z103 z104 z105 z106 z107 z108 z109 z110 z111 z112 z113 z114 z115 z116 z117 z118 z119 z120 z121 z122 z123 z124 z125 z126 z127 z128 z129 z130 z131 z132 z133 z134 z135 z136 z137 z138 z139 z140 z141 z142 z143 z144 z145 z146 z147 z148 z149 z150 z151 z152 z153 z154 z155 z156 z157 z158 z159 z160 z161 z162 z163 z164 z165 z166 z167 z168 z169 z170 z171 z172 z173 z174 z175 z176 z177 z178 z179 z180 z181 z182 z183 z184 z185 z186 z187 z188 z189 z190 z191 z192 z193 z194 z195 z196 z197 : Value} {Q : Exit → Act → World → Prop}
    (hQ : ∀ (v11 v12 v13 v14 v15 v16 v17 v56 v57 v58 v59 v60 v61 v62 v63 v64 v65 v66 v67 v68 v69 v70 v71 v72 v73 v74 v75 v76 v77 v78 v79 v80 v81 v82 v83 v84 v85 v86 v87 v88 v89 v90 v91 v92 v93 v94 v95 v96 v97 v98 v99 v100 v101 v102 v103 v104 v105 v106 v107 v108 v109 v110 v111 v112 v113 v114 v115 v116 v117 v118 v119 v120 v121 v122 v123 v124 v125 v126 v127 v128 v129 v130 v131 v132 v133 v134 v135 v136 v137 v138 v139 v140 v141 v142 v143 : Value) (W : World), (∃ es', AgR w w3 W q (j + 1) es es') → Q .normal ⟨#[z0, z1, z2, z3, z4, .pointer (some ⟨q, 0, none⟩), .int .i64 mx, z7, .pointer (some ⟨q8, 0, none⟩), .int .i64 a, .int .i64 e1, v11, v12, v13, v14, v15, v16, v17, z18, z19, z20, z21, z22, z23, z24, z25, z26, z27, z28, z29, z30, z31, z32, z33, z34, z35, z36, z37, z38, z39, z40, z41, z42, z43, z44, z45, z46, z47, z48, z49, z50, z51, z52, z53, z54, .int .i64 x.f0, v56, v57, v58, v59, v60, v61, v62, v63, v64, v65, v66, v67, v68, v69, v70, v71, v72, v73, v74, v75, v76, v77, v78, v79, v80, v81, v82, v83, v84, v85, v86, v87, v88, v89, v90, v91, v92, v93, v94, v95, v96, v97, v98, v99, v100, v101, v102, v103, v104, v105, v106, v107, v108, v109, v110, v111, v112, v113, v114, v115, v116, v117, v118, v119, v120, v121, v122, v123, v124, v125, v126, v127, v128, v129, v130, v131, v132, v133, v134, v135, v136, v137, v138, v139, v140, v141, v142, v143, z144, z145, z146, z147, z148, z149, z150, z151, z152, z153, z154, z155, z156, z157, z158, z159, z160, z161, z162, z163, z164, z165, z166, z167, z168, z169, z170, z171, z172, z173, z174, z175, z176, z177, z178, z179, z180, z181, z182, z183, z184, z185, z186, z187, z188, z189, z190, z191, z192, z193, z194, z195, z196, z197], []⟩ W) (hc : x.f0 = 6) :
    Code.wp Tryd.prog swc Q ⟨#[z0, z1, z2, z3, z4, .pointer (some ⟨q, 0, none⟩), .int .i64 mx, z7, .pointer (some ⟨q8, 0, none⟩), .int .i64 a, .int .i64 e1, z11, z12, z13, z14, z15, z16, z17, z18, z19, z20, z21, z22, z23, z24, z25, z26, z27, z28, z29, z30, z31, z32, z33, z34, z35, z36, z37, z38, z39, z40, z41, z42, z43, z44, z45, z46, z47, z48, z49, z50, z51, z52, z53, z54, .int .i64 x.f0, z56, z57, z58, z59, z60, z61, z62, z63, z64, z65, z66, z67, z68, z69, z70, z71, z72, z73, z74, z75, z76, z77, z78, z79, z80, z81, z82, z83, z84, z85, z86, z87, z88, z89, z90, z91, z92, z93, z94, z95, z96, z97, z98, z99, z100, z101, z102, z103, z104, z105, z106, z107, z108, z109, z110, z111, z112, z113, z114, z115, z116, z117, z118, z119, z120, z121, z122, z123, z124, z125, z126, z127, z128, z129, z130, z131, z132, z133, z134, z135, z136, z137, z138, z139, z140, z141, z142, z143, z144, z145, z146, z147, z148, z149, z150, z151, z152, z153, z154, z155, z156, z157, z158, z159, z160, z161, z162, z163, z164, z165, z166, z167, z168, z169, z170, z171, z172, z173, z174, z175, z176, z177, z178, z179, z180, z181, z182, z183, z184, z185, z186, z187, z188, z189, z190, z191, z192, z193, z194, z195, z196, z197], []⟩ w3 := by
  conv => arg 2; whnf
  have d0 : (x.f0 == 0) = false := by rw [beq_eq_false_iff_ne]; omega
  have d4 : (x.f0 == 4) = false := by rw [beq_eq_false_iff_ne]; omega
  have d5 : (x.f0 == 5) = false := by rw [beq_eq_false_iff_ne]; omega
  have d6 : (x.f0 == 6) = true := by rw [beq_iff_eq]; exact hc
  clear hc
  obtain ⟨y0, y1, y2, y4, y5, y6, y7, y8⟩ := Z.out w3 BK3.out
  clear y8
  obtain ⟨es', cc, hr⟩ : ∃ es' cc, takeF es mx x.f2 sq x.f4 = (es', cc) := ⟨_, _, rfl⟩
  have AD := Aside0.mk (S3.out.take HMX.out hj150 HSQ.out HFX.out hr)
  have HH := Aside0.mk (fun (h : ageF es mx x.f2 false = (2, 0)) => (show cc ≠ 0 from by have := take_hard h sq x.f4; rw [hr] at this; exact this))
  clear hr
  by_cases ha2 : a = 2
  · subst ha2
    cases ob
    · rcases HE.out with rfl | rfl
      · have hccb : (cc == 0) = false := by rw [beq_eq_false_iff_ne]; exact HH.out HAG.out
        go_wp2_with (fail)
        refine AD.out.mono ?_
        rintro e w4 ⟨rfl, h⟩
        have S4 := Aside0.mk h
        clear h
        go_upto_region 26 with (fail)
        refine gen_world (F := fun W => Code.wp _ _ _ _ W) (P := fun W => AgR w w3 W q (j + 1) es es') (by first | exact S4.out | exact S4.out.step (below_alloc (Below.refl _ _) _)) ?_
        intro w5 h5
        have S5 := Aside0.mk h5
        clear h5 y0 y1 y2 y4 y5 y6 y7
        obtain ⟨y0, y1, y2, y4, y5, y6, y7, y8⟩ := Z.out w5 (S5.out.keep _ _ BK3.out)
        clear y8
        go_wp2_with (fail)
        first | exact ⟨_, S5.out⟩ | exact hQ _ _ _ _ _ _ _ _ _ _ _ _ _ _ _ _ _ _ _ _ _ _ _ _ _ _ _ _ _ _ _ _ _ _ _ _ _ _ _ _ _ _ _ _ _ _ _ _ _ _ _ _ _ _ _ _ _ _ _ _ _ _ _ _ _ _ _ _ _ _ _ _ _ _ _ _ _ _ _ _ _ _ _ _ _ _ _ _ _ _ _ _ _ _ _ _ ⟨_, S5.out⟩
      · go_wp2_with (fail)
        refine AD.out.mono ?_
        rintro e w4 ⟨rfl, h⟩
        have S4 := Aside0.mk h
        clear h
        go_upto_region 26 with (fail)
        refine gen_world (F := fun W => Code.wp _ _ _ _ W) (P := fun W => AgR w w3 W q (j + 1) es es') (by first | exact S4.out | exact S4.out.step (below_alloc (Below.refl _ _) _)) ?_
        intro w5 h5
        have S5 := Aside0.mk h5
        clear h5 y0 y1 y2 y4 y5 y6 y7
        obtain ⟨y0, y1, y2, y4, y5, y6, y7, y8⟩ := Z.out w5 (S5.out.keep _ _ BK3.out)
        clear y8
        go_wp2_with (fail)
        first | exact ⟨_, S5.out⟩ | exact hQ _ _ _ _ _ _ _ _ _ _ _ _ _ _ _ _ _ _ _ _ _ _ _ _ _ _ _ _ _ _ _ _ _ _ _ _ _ _ _ _ _ _ _ _ _ _ _ _ _ _ _ _ _ _ _ _ _ _ _ _ _ _ _ _ _ _ _ _ _ _ _ _ _ _ _ _ _ _ _ _ _ _ _ _ _ _ _ _ _ _ _ _ _ _ _ _ ⟨_, S5.out⟩
    · go_wp2_with (fail)
      refine AD.out.mono ?_
      rintro e w4 ⟨rfl, h⟩
      have S4 := Aside0.mk h
      clear h
      go_upto_region 26 with (fail)
      refine gen_world (F := fun W => Code.wp _ _ _ _ W) (P := fun W => AgR w w3 W q (j + 1) es es') (by first | exact S4.out | exact S4.out.step (below_alloc (Below.refl _ _) _)) ?_
      intro w5 h5
      have S5 := Aside0.mk h5
      clear h5 y0 y1 y2 y4 y5 y6 y7
      obtain ⟨y0, y1, y2, y4, y5, y6, y7, y8⟩ := Z.out w5 (S5.out.keep _ _ BK3.out)
      clear y8
      go_wp2_with (fail)
      first | exact ⟨_, S5.out⟩ | exact hQ _ _ _ _ _ _ _ _ _ _ _ _ _ _ _ _ _ _ _ _ _ _ _ _ _ _ _ _ _ _ _ _ _ _ _ _ _ _ _ _ _ _ _ _ _ _ _ _ _ _ _ _ _ _ _ _ _ _ _ _ _ _ _ _ _ _ _ _ _ _ _ _ _ _ _ _ _ _ _ _ _ _ _ _ _ _ _ _ _ _ _ _ _ _ _ _ ⟨_, S5.out⟩
  · have ha2b : (a == 2) = false := by rw [beq_eq_false_iff_ne]; exact ha2
    clear ha2
    go_wp2_with (fail)
    refine AD.out.mono ?_
    rintro e w4 ⟨rfl, h⟩
    have S4 := Aside0.mk h
    clear h
    go_upto_region 26 with (fail)
    refine gen_world (F := fun W => Code.wp _ _ _ _ W) (P := fun W => AgR w w3 W q (j + 1) es es') (by first | exact S4.out | exact S4.out.step (below_alloc (Below.refl _ _) _)) ?_
    intro w5 h5
    have S5 := Aside0.mk h5
    clear h5 y0 y1 y2 y4 y5 y6 y7
    obtain ⟨y0, y1, y2, y4, y5, y6, y7, y8⟩ := Z.out w5 (S5.out.keep _ _ BK3.out)
    clear y8
    go_wp2_with (fail)
    first | exact ⟨_, S5.out⟩ | exact hQ _ _ _ _ _ _ _ _ _ _ _ _ _ _ _ _ _ _ _ _ _ _ _ _ _ _ _ _ _ _ _ _ _ _ _ _ _ _ _ _ _ _ _ _ _ _ _ _ _ _ _ _ _ _ _ _ _ _ _ _ _ _ _ _ _ _ _ _ _ _ _ _ _ _ _ _ _ _ _ _ _ _ _ _ _ _ _ _ _ _ _ _ _ _ _ _ ⟨_, S5.out⟩
set_option maxHeartbeats 6400000 in
set_option maxRecDepth 100000 in
theorem swN_walk {w w3 : World} {q q8 j sq : Nat} {es : List En} {x : S40} {CS : Array Value} {mx a e1 : Int} {ob : Bool} (hj150 : j ≤ 150) (HMX : Aside0 (0 ≤ mx ∧ mx ≤ 1000000000)) (HFX : Aside0 (x.f4 ≤ 1000000000)) (HSQ : Aside0 (sq < 18446744073709551616)) (HE : Aside0 (e1 = 0 ∨ e1 = 6)) (HAG : Aside0 (ageF es mx x.f2 ob = (a, e1))) (Z : Aside0 (BoxX q8 CS x ob sq)) (BK3 : Aside0 (w3.heap[q8]? = some (.cells CS 40 (0, 0)))) (S3 : Aside0 (AgS w w3 q j es))
    {z0 z1 z2 z3 z4 z7 z11 z12 z13 z14 z15 z16 z17 z18 z19 z20 z21 z22 z23 z24 z25 z26 z27 z28 z29 z30 z31 z32 z33 z34 z35 z36 z37 z38 z39 z40 z41 z42 z43 z44 z45 z46 z47 z48 z49 z50 z51 z52 z53 z54 z56 z57 z58 z59 z60 z61 z62 z63 z64 z65 z66 z67 z68 z69 z70 z71 z72 z73 z74 z75 z76 z77 z78 z79 z80 z81 z82 z83 z84 z85 z86 z87 z88 z89 z90 z91 z92 z93 z94 z95 z96 z97 z98 z99 z100 z101 z102 z103 z104 z105 z106 z107 z108 z109 z110 z111 z112 z113 z114 z115 z116 z117 z118 z119 z120 z121 z122 z123 z124 z125 z126 z127 z128 z129 z130 z131 z132 z133 z134 z135 z136 z137 z138 z139 z140 z141 z142 z143 z144 z145 z146 z147 z148 z149 z150 z151 z152 z153 z154 z155 z156 z157 z158 z159 z160 z161 z162 z163 z164 z165 z166 z167 z168 z169 z170 z171 z172 z173 z174 z175 z176 z177 z178 z179 z180 z181 z182 z183 z184 z185 z186 z187 z188 z189 z190 z191 z192 z193 z194 z195 z196 z197 : Value} {Q : Exit → Act → World → Prop}
    (hQ : ∀ (v11 v12 v13 v14 v15 v16 v17 v56 v57 v58 v59 v60 v61 v62 v63 v64 v65 v66 v67 v68 v69 v70 v71 v72 v73 v74 v75 v76 v77 v78 v79 v80 v81 v82 v83 v84 v85 v86 v87 v88 v89 v90 v91 v92 v93 v94 v95 v96 v97 v98 v99 v100 v101 v102 v103 v104 v105 v106 v107 v108 v109 v110 v111 v112 v113 v114 v115 v116 v117 v118 v119 v120 v121 v122 v123 v124 v125 v126 v127 v128 v129 v130 v131 v132 v133 v134 v135 v136 v137 v138 v139 v140 v141 v142 v143 : Value) (W : World), (∃ es', AgR w w3 W q (j + 1) es es') → Q .normal ⟨#[z0, z1, z2, z3, z4, .pointer (some ⟨q, 0, none⟩), .int .i64 mx, z7, .pointer (some ⟨q8, 0, none⟩), .int .i64 a, .int .i64 e1, v11, v12, v13, v14, v15, v16, v17, z18, z19, z20, z21, z22, z23, z24, z25, z26, z27, z28, z29, z30, z31, z32, z33, z34, z35, z36, z37, z38, z39, z40, z41, z42, z43, z44, z45, z46, z47, z48, z49, z50, z51, z52, z53, z54, .int .i64 x.f0, v56, v57, v58, v59, v60, v61, v62, v63, v64, v65, v66, v67, v68, v69, v70, v71, v72, v73, v74, v75, v76, v77, v78, v79, v80, v81, v82, v83, v84, v85, v86, v87, v88, v89, v90, v91, v92, v93, v94, v95, v96, v97, v98, v99, v100, v101, v102, v103, v104, v105, v106, v107, v108, v109, v110, v111, v112, v113, v114, v115, v116, v117, v118, v119, v120, v121, v122, v123, v124, v125, v126, v127, v128, v129, v130, v131, v132, v133, v134, v135, v136, v137, v138, v139, v140, v141, v142, v143, z144, z145, z146, z147, z148, z149, z150, z151, z152, z153, z154, z155, z156, z157, z158, z159, z160, z161, z162, z163, z164, z165, z166, z167, z168, z169, z170, z171, z172, z173, z174, z175, z176, z177, z178, z179, z180, z181, z182, z183, z184, z185, z186, z187, z188, z189, z190, z191, z192, z193, z194, z195, z196, z197], []⟩ W) (h0 : x.f0 ≠ 0) (h4 : x.f0 ≠ 4) (h5 : x.f0 ≠ 5) (h6 : x.f0 ≠ 6) :
    Code.wp Tryd.prog swc Q ⟨#[z0, z1, z2, z3, z4, .pointer (some ⟨q, 0, none⟩), .int .i64 mx, z7, .pointer (some ⟨q8, 0, none⟩), .int .i64 a, .int .i64 e1, z11, z12, z13, z14, z15, z16, z17, z18, z19, z20, z21, z22, z23, z24, z25, z26, z27, z28, z29, z30, z31, z32, z33, z34, z35, z36, z37, z38, z39, z40, z41, z42, z43, z44, z45, z46, z47, z48, z49, z50, z51, z52, z53, z54, .int .i64 x.f0, z56, z57, z58, z59, z60, z61, z62, z63, z64, z65, z66, z67, z68, z69, z70, z71, z72, z73, z74, z75, z76, z77, z78, z79, z80, z81, z82, z83, z84, z85, z86, z87, z88, z89, z90, z91, z92, z93, z94, z95, z96, z97, z98, z99, z100, z101, z102, z103, z104, z105, z106, z107, z108, z109, z110, z111, z112, z113, z114, z115, z116, z117, z118, z119, z120, z121, z122, z123, z124, z125, z126, z127, z128, z129, z130, z131, z132, z133, z134, z135, z136, z137, z138, z139, z140, z141, z142, z143, z144, z145, z146, z147, z148, z149, z150, z151, z152, z153, z154, z155, z156, z157, z158, z159, z160, z161, z162, z163, z164, z165, z166, z167, z168, z169, z170, z171, z172, z173, z174, z175, z176, z177, z178, z179, z180, z181, z182, z183, z184, z185, z186, z187, z188, z189, z190, z191, z192, z193, z194, z195, z196, z197], []⟩ w3 := by
  conv => arg 2; whnf
  have d0 : (x.f0 == 0) = false := by rw [beq_eq_false_iff_ne]; exact h0
  have d4 : (x.f0 == 4) = false := by rw [beq_eq_false_iff_ne]; exact h4
  have d5 : (x.f0 == 5) = false := by rw [beq_eq_false_iff_ne]; exact h5
  have d6 : (x.f0 == 6) = false := by rw [beq_eq_false_iff_ne]; exact h6
  clear h0 h4 h5 h6
  go_wp2_with (fail)
  first | exact ⟨es, ⟨S3.out.one, S3.out.lst.mono⟩, .refl _, fun k cs h => h⟩ | exact hQ _ _ _ _ _ _ _ _ _ _ _ _ _ _ _ _ _ _ _ _ _ _ _ _ _ _ _ _ _ _ _ _ _ _ _ _ _ _ _ _ _ _ _ _ _ _ _ _ _ _ _ _ _ _ _ _ _ _ _ _ _ _ _ _ _ _ _ _ _ _ _ _ _ _ _ _ _ _ _ _ _ _ _ _ _ _ _ _ _ _ _ _ _ _ _ _ ⟨es, ⟨S3.out.one, S3.out.lst.mono⟩, .refl _, fun k cs h => h⟩
set_option maxHeartbeats 6400000 in
set_option maxRecDepth 100000 in
theorem sw_walk {w w3 : World} {q q8 j sq : Nat} {es : List En} {x : S40} {CS : Array Value} {mx a e1 : Int} {ob : Bool} (hj150 : j ≤ 150) (HMX : Aside0 (0 ≤ mx ∧ mx ≤ 1000000000)) (HFX : Aside0 (x.f4 ≤ 1000000000)) (HSQ : Aside0 (sq < 18446744073709551616)) (HE : Aside0 (e1 = 0 ∨ e1 = 6)) (HAG : Aside0 (ageF es mx x.f2 ob = (a, e1))) (Z : Aside0 (BoxX q8 CS x ob sq)) (BK3 : Aside0 (w3.heap[q8]? = some (.cells CS 40 (0, 0)))) (S3 : Aside0 (AgS w w3 q j es))
    {z0 z1 z2 z3 z4 z7 z11 z12 z13 z14 z15 z16 z17 z18 z19 z20 z21 z22 z23 z24 z25 z26 z27 z28 z29 z30 z31 z32 z33 z34 z35 z36 z37 z38 z39 z40 z41 z42 z43 z44 z45 z46 z47 z48 z49 z50 z51 z52 z53 z54 z56 z57 z58 z59 z60 z61 z62 z63 z64 z65 z66 z67 z68 z69 z70 z71 z72 z73 z74 z75 z76 z77 z78 z79 z80 z81 z82 z83 z84 z85 z86 z87 z88 z89 z90 z91 z92 z93 z94 z95 z96 z97 z98 z99 z100 z101 z102 z103 z104 z105 z106 z107 z108 z109 z110 z111 z112 z113 z114 z115 z116 z117 z118 z119 z120 z121 z122 z123 z124 z125 z126 z127 z128 z129 z130 z131 z132 z133 z134 z135 z136 z137 z138 z139 z140 z141 z142 z143 z144 z145 z146 z147 z148 z149 z150 z151 z152 z153 z154 z155 z156 z157 z158 z159 z160 z161 z162 z163 z164 z165 z166 z167 z168 z169 z170 z171 z172 z173 z174 z175 z176 z177 z178 z179 z180 z181 z182 z183 z184 z185 z186 z187 z188 z189 z190 z191 z192 z193 z194 z195 z196 z197 : Value} {Q : Exit → Act → World → Prop}
    (hQ : ∀ (v11 v12 v13 v14 v15 v16 v17 v56 v57 v58 v59 v60 v61 v62 v63 v64 v65 v66 v67 v68 v69 v70 v71 v72 v73 v74 v75 v76 v77 v78 v79 v80 v81 v82 v83 v84 v85 v86 v87 v88 v89 v90 v91 v92 v93 v94 v95 v96 v97 v98 v99 v100 v101 v102 v103 v104 v105 v106 v107 v108 v109 v110 v111 v112 v113 v114 v115 v116 v117 v118 v119 v120 v121 v122 v123 v124 v125 v126 v127 v128 v129 v130 v131 v132 v133 v134 v135 v136 v137 v138 v139 v140 v141 v142 v143 : Value) (W : World), (∃ es', AgR w w3 W q (j + 1) es es') → Q .normal ⟨#[z0, z1, z2, z3, z4, .pointer (some ⟨q, 0, none⟩), .int .i64 mx, z7, .pointer (some ⟨q8, 0, none⟩), .int .i64 a, .int .i64 e1, v11, v12, v13, v14, v15, v16, v17, z18, z19, z20, z21, z22, z23, z24, z25, z26, z27, z28, z29, z30, z31, z32, z33, z34, z35, z36, z37, z38, z39, z40, z41, z42, z43, z44, z45, z46, z47, z48, z49, z50, z51, z52, z53, z54, .int .i64 x.f0, v56, v57, v58, v59, v60, v61, v62, v63, v64, v65, v66, v67, v68, v69, v70, v71, v72, v73, v74, v75, v76, v77, v78, v79, v80, v81, v82, v83, v84, v85, v86, v87, v88, v89, v90, v91, v92, v93, v94, v95, v96, v97, v98, v99, v100, v101, v102, v103, v104, v105, v106, v107, v108, v109, v110, v111, v112, v113, v114, v115, v116, v117, v118, v119, v120, v121, v122, v123, v124, v125, v126, v127, v128, v129, v130, v131, v132, v133, v134, v135, v136, v137, v138, v139, v140, v141, v142, v143, z144, z145, z146, z147, z148, z149, z150, z151, z152, z153, z154, z155, z156, z157, z158, z159, z160, z161, z162, z163, z164, z165, z166, z167, z168, z169, z170, z171, z172, z173, z174, z175, z176, z177, z178, z179, z180, z181, z182, z183, z184, z185, z186, z187, z188, z189, z190, z191, z192, z193, z194, z195, z196, z197], []⟩ W) :
    Code.wp Tryd.prog swc Q ⟨#[z0, z1, z2, z3, z4, .pointer (some ⟨q, 0, none⟩), .int .i64 mx, z7, .pointer (some ⟨q8, 0, none⟩), .int .i64 a, .int .i64 e1, z11, z12, z13, z14, z15, z16, z17, z18, z19, z20, z21, z22, z23, z24, z25, z26, z27, z28, z29, z30, z31, z32, z33, z34, z35, z36, z37, z38, z39, z40, z41, z42, z43, z44, z45, z46, z47, z48, z49, z50, z51, z52, z53, z54, .int .i64 x.f0, z56, z57, z58, z59, z60, z61, z62, z63, z64, z65, z66, z67, z68, z69, z70, z71, z72, z73, z74, z75, z76, z77, z78, z79, z80, z81, z82, z83, z84, z85, z86, z87, z88, z89, z90, z91, z92, z93, z94, z95, z96, z97, z98, z99, z100, z101, z102, z103, z104, z105, z106, z107, z108, z109, z110, z111, z112, z113, z114, z115, z116, z117, z118, z119, z120, z121, z122, z123, z124, z125, z126, z127, z128, z129, z130, z131, z132, z133, z134, z135, z136, z137, z138, z139, z140, z141, z142, z143, z144, z145, z146, z147, z148, z149, z150, z151, z152, z153, z154, z155, z156, z157, z158, z159, z160, z161, z162, z163, z164, z165, z166, z167, z168, z169, z170, z171, z172, z173, z174, z175, z176, z177, z178, z179, z180, z181, z182, z183, z184, z185, z186, z187, z188, z189, z190, z191, z192, z193, z194, z195, z196, z197], []⟩ w3 := by
  by_cases c0 : x.f0 = 0
  · exact sw0_walk hj150 HMX HFX HSQ HE HAG Z BK3 S3 hQ c0
  by_cases c4 : x.f0 = 4
  · exact sw4_walk hj150 HMX HFX HSQ HE HAG Z BK3 S3 hQ c4
  by_cases c5 : x.f0 = 5
  · exact sw5_walk hj150 HMX HFX HSQ HE HAG Z BK3 S3 hQ c5
  by_cases c6 : x.f0 = 6
  · exact sw6_walk hj150 HMX HFX HSQ HE HAG Z BK3 S3 hQ c6
  exact swN_walk hj150 HMX HFX HSQ HE HAG Z BK3 S3 hQ c0 c4 c5 c6
end Go.Proofs.YtkmnpnbfeiobiaaDoor.Sd

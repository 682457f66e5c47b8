-- Written by a program of this session (wip/tools/pp.py) out of what the kit's print.py prints over this seat's translation. Not trusted: Lean checks it.
import Derived.Test.YtdpfopeofeofcaaQSpx0
import Derived.Test.YtdpfopeofeofcaaQSpx1
namespace Go.Proofs.Ytdpfopeofeofcaa.QSp
open Go.RowKit Go.Proofs.YtdpfopeofeofcaaW.PrintWords Go.Proofs.YtdpfopeofeofcaaW.PrintLast Go.Proofs.YtdpfopeofeofcaaW.PrintMore
attribute [local go_sem] max2_int min2_int max_two min_two max_three min_three max_four min_four   -- for this text's walks alone
set_option linter.unusedVariables false
set_option linter.unusedSimpArgs false

theorem eqA29 (d : Nat) (w : World) (x0 y0 : ByteArray) (x1 y1 : ByteArray) :
    (Op.equalIn (d + 2) 29 (.agg #[.string x0, .string x1]) (.agg #[.string y0, .string y1])).run Try.prog w = .ok (x0.toList == y0.toList && (x1.toList == y1.toList)) w := by
  refine eqA_of Try.underlying29 (by kernel_rfl) ?_
  refine eqf_cons (by rfl) (by go_simp; rfl) (by go_simp; rfl) (by go_simp) ?_
  exact eqf_last (by rfl) (by go_simp; rfl) (by go_simp; rfl) (by go_simp)
theorem eqA33 (d : Nat) (w : World) (x0 y0 : ByteArray) (x1 y1 : ByteArray) (x2 y2 : ByteArray) (x3 y3 : ByteArray) (x4 y4 : Int) (x5 y5 : Int) (x6 y6 : Int) (x7 y7 : Int) (x8 y8 : Int) :
    (Op.equalIn (d + 3) 33 (.agg #[.string x0, .string x1, .string x2, .string x3, .int .i64 x4, .int .i64 x5, .int .i64 x6, .int .i64 x7, .int .i64 x8]) (.agg #[.string y0, .string y1, .string y2, .string y3, .int .i64 y4, .int .i64 y5, .int .i64 y6, .int .i64 y7, .int .i64 y8])).run Try.prog w = .ok ((x0.toList == y0.toList && (x1.toList == y1.toList)) && ((x2.toList == y2.toList && (x3.toList == y3.toList)) && (x4 == y4 && ((x5 == y5 && (x6 == y6)) && ((x7 == y7 && (x8 == y8))))))) w := by
  refine eqA_of Try.underlying33 (by kernel_rfl) ?_
  refine eqf_cons (by rfl) (by go_simp) (by go_simp) (eqA29 (d + 0) w _ _ _ _) ?_
  refine eqf_cons (by rfl) (by go_simp) (by go_simp) (eqA29 (d + 0) w _ _ _ _) ?_
  refine eqf_cons (by rfl) (by go_simp; rfl) (by go_simp; rfl) (by go_simp) ?_
  refine eqf_cons (by rfl) (by go_simp) (by go_simp) (eqA31 (d + 0) w _ _ _ _) ?_
  exact eqf_last (by rfl) (by go_simp) (by go_simp) (eqA31 (d + 0) w _ _ _ _)
theorem eqA35 (d : Nat) (w : World) (x0 y0 : Int) (x1 y1 : ByteArray) (x2 y2 : ByteArray) (x3 y3 : ByteArray) (x4 y4 : ByteArray) (x5 y5 : Int) (x6 y6 : Int) (x7 y7 : Int) (x8 y8 : Int) (x9 y9 : Int) (x10 y10 : Bool) (x11 y11 : Bool) (x12 y12 : Int) (x13 y13 : Bool) (x14 y14 : ByteArray) (x15 y15 : ByteArray) :
    (Op.equalIn (d + 4) 35 (.agg #[.int .i64 x0, .string x1, .string x2, .string x3, .string x4, .int .i64 x5, .int .i64 x6, .int .i64 x7, .int .i64 x8, .int .i64 x9, .bool x10, .bool x11, .int .i64 x12, .bool x13, .string x14, .string x15]) (.agg #[.int .i64 y0, .string y1, .string y2, .string y3, .string y4, .int .i64 y5, .int .i64 y6, .int .i64 y7, .int .i64 y8, .int .i64 y9, .bool y10, .bool y11, .int .i64 y12, .bool y13, .string y14, .string y15])).run Try.prog w = .ok (x0 == y0 && (((x1.toList == y1.toList && (x2.toList == y2.toList)) && ((x3.toList == y3.toList && (x4.toList == y4.toList)) && (x5 == y5 && ((x6 == y6 && (x7 == y7)) && ((x8 == y8 && (x9 == y9))))))) && (x10 == y10 && (x11 == y11 && (x12 == y12 && (x13 == y13 && (x14.toList == y14.toList && (x15.toList == y15.toList)))))))) w := by
  refine eqA_of Try.underlying35 (by kernel_rfl) ?_
  refine eqf_cons (by rfl) (by go_simp; rfl) (by go_simp; rfl) (by go_simp) ?_
  refine eqf_cons (by rfl) (by go_simp) (by go_simp) (eqA33 (d + 0) w _ _ _ _ _ _ _ _ _ _ _ _ _ _ _ _ _ _) ?_
  refine eqf_cons (by rfl) (by go_simp; rfl) (by go_simp; rfl) (by go_simp) ?_
  refine eqf_cons (by rfl) (by go_simp; rfl) (by go_simp; rfl) (by go_simp) ?_
  refine eqf_cons (by rfl) (by go_simp; rfl) (by go_simp; rfl) (by go_simp) ?_
  refine eqf_cons (by rfl) (by go_simp; rfl) (by go_simp; rfl) (by go_simp) ?_
  refine eqf_cons (by rfl) (by go_simp; rfl) (by go_simp; rfl) (by go_simp) ?_
  exact eqf_last (by rfl) (by go_simp; rfl) (by go_simp; rfl) (by go_simp)
end Go.Proofs.Ytdpfopeofeofcaa.QSp

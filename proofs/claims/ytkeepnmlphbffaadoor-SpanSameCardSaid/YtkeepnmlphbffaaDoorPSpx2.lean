-- Written by a program: the kit's print.py, driven for several laws at once. Not trusted: Lean checks it.
import Derived.Test.YtkeepnmlphbffaaDoorPSpx0
import Derived.Test.YtkeepnmlphbffaaDoorPSpx1
namespace Go.Proofs.YtkeepnmlphbffaaDoor.PSp
open Go.RowKit Go.Proofs.YtkeepnmlphbffaaDoorW.PrintWords Go.Proofs.YtkeepnmlphbffaaDoorW.PrintLast Go.Proofs.YtkeepnmlphbffaaDoorW.PrintMore
attribute [local go_sem] max2_int min2_int max_two min_two max_three min_three max_four min_four   -- for this text's walks alone
set_option linter.unusedVariables false
set_option linter.unusedSimpArgs false

theorem eqA43 (d : Nat) (w : World) (x0 y0 : ByteArray) (x1 y1 : Int) (x2 y2 : ByteArray) (x3 y3 : Int) (x4 y4 : Bool) :
    (Op.equalIn (d + 3) 43 (.agg #[.string x0, .int .i64 x1, .string x2, .int .i64 x3, .bool x4]) (.agg #[.string y0, .int .i64 y1, .string y2, .int .i64 y3, .bool y4])).run Tryd.prog w = .ok (x0.toList == y0.toList && ((x1 == y1 && (x2.toList == y2.toList && (x3 == y3 && (x4 == y4)))))) w := by
  refine eqA_of Tryd.underlying43 (by kernel_rfl) ?_
  refine eqf_cons (by rfl) (by go_simp; rfl) (by go_simp; rfl) (by go_simp) ?_
  exact eqf_last (by rfl) (by go_simp) (by go_simp) (eqA23 (d + 0) w _ _ _ _ _ _ _ _)
end Go.Proofs.YtkeepnmlphbffaaDoor.PSp

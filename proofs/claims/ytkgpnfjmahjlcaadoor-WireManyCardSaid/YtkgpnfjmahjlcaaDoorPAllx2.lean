-- Written by a program: the kit's print.py, driven for several laws at once. Not trusted: Lean checks it.
import Derived.Test.YtkgpnfjmahjlcaaDoorPAllx0
namespace Go.Proofs.YtkgpnfjmahjlcaaDoor.PAll
open Go.RowKit Go.Proofs.YtkgpnfjmahjlcaaDoorW.PrintWords Go.Proofs.YtkgpnfjmahjlcaaDoorW.PrintLast Go.Proofs.YtkgpnfjmahjlcaaDoorW.PrintMore
attribute [local go_sem] max2_int min2_int max_two min_two max_three min_three max_four min_four   -- for this text's walks alone
set_option linter.unusedVariables false
set_option linter.unusedSimpArgs false

theorem eqA55 (d : Nat) (w : World) (x0 y0 : Int) (x1 y1 : ByteArray) :
    (Op.equalIn (d + 2) 55 (.agg #[.int .i64 x0, .string x1]) (.agg #[.int .i64 y0, .string y1])).run Tryd.prog w = .ok (x0 == y0 && (x1.toList == y1.toList)) w := by
  refine eqA_of Tryd.underlying55 (by kernel_rfl) ?_
  refine eqf_cons (by rfl) (by go_simp; rfl) (by go_simp; rfl) (by go_simp) ?_
  exact eqf_last (by rfl) (by go_simp; rfl) (by go_simp; rfl) (by go_simp)
end Go.Proofs.YtkgpnfjmahjlcaaDoor.PAll

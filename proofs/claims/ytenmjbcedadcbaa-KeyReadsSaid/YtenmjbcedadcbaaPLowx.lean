-- Written by a program: the kit's print.py, driven for several laws at once. Not trusted: Lean checks it.
import Derived.Test.YtenmjbcedadcbaaPLowx0
import Derived.Test.YtenmjbcedadcbaaPLowx1
namespace Go.Proofs.Ytenmjbcedadcbaa.PLow
open Go.RowKit Go.Proofs.YtenmjbcedadcbaaW.PrintWords Go.Proofs.YtenmjbcedadcbaaW.PrintLast Go.Proofs.YtenmjbcedadcbaaW.PrintMore
attribute [local go_sem] max2_int min2_int max_two min_two max_three min_three max_four min_four   -- for this text's walks alone
set_option linter.unusedVariables false
set_option linter.unusedSimpArgs false

end Go.Proofs.Ytenmjbcedadcbaa.PLow

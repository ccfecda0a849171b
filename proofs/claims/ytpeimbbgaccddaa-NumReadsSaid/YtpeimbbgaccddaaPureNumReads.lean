/- NumReads: the short number with which any bytes begin is, of the program, just what it is of the reference. For every row of bytes; rows of more than 4096 bytes pass by the law's own guard. -/
import Derived.Test.YtpeimbbgaccddaaNumMore
import Derived.Test.YtpeimbbgaccddaaPAllx2
namespace Go.Proofs.Ytpeimbbgaccddaa.Pure
open Go.RowKit Go.Proofs.Ytpeimbbgaccddaa.PAll Go.Proofs.YtpeimbbgaccddaaW.PrintWords Go.Proofs.YtpeimbbgaccddaaW.PrintLast Go.Proofs.Ytpeimbbgaccddaa.Math Go.Proofs.Ytpeimbbgaccddaa.NumFacts

theorem NumReads : cambiumlaw01_NumReads.Pure := by
  intro l _ _ hw
  have hb := isB_of_wf hw
  refine ⟨50, ?_⟩
  unfold cambiumlaw01_NumReads.f
  rw [awake_eq 50 (by omega), Option.bind_some, if_pos rfl]
  split
  · rfl
  · rw [get_eq 50 l hb (by omega), rget_eq 50 l hb (by omega), getint_eq 50 l hb (by omega), rgetint_eq 50 l hb (by omega)]
    simp

end Go.Proofs.Ytpeimbbgaccddaa.Pure

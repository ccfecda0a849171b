/- NumFour: four bytes are a number of 32 bits, and it is them; of fewer bytes those that there aren't are 0. For every such number and every row of bytes. -/
import Derived.Test.YtpeimbbgaccddaaNumKey
import Derived.Test.YtpeimbbgaccddaaNumMore
import Derived.Test.YtpeimbbgaccddaaPAllx3
namespace Go.Proofs.Ytpeimbbgaccddaa.Pure
open Go.RowKit Go.Proofs.Ytpeimbbgaccddaa.PAll Go.Proofs.YtpeimbbgaccddaaW.PrintWords Go.Proofs.YtpeimbbgaccddaaW.PrintLast Go.Proofs.Ytpeimbbgaccddaa.Math Go.Proofs.Ytpeimbbgaccddaa.NumFacts

theorem NumFour : cambiumlaw01_NumFour.Pure := by
  intro v l hv _ hl hw
  have hb := isB_of_wf hw
  have b0 : 0 ≤ v ∧ v < 4294967296 := by
    simp [Lit.wf, IntKind.min, IntKind.max, IntKind.bits, IntKind.signed] at hv; omega
  refine ⟨50, ?_⟩
  unfold cambiumlaw01_NumFour.f
  rw [awake_eq 50 (by omega), Option.bind_some, if_pos rfl, put32_eq 50 v b0.1 b0.2 (by omega), Option.bind_some, get32_eq _ (key4_isB v), Option.bind_some, pad4_four rfl, vbig_key4 b0.1 b0.2, if_pos rfl, Option.bind_some, if_pos (show ((key4 v).length : Int) = 4 from rfl),
    get32_eq l hb, Option.bind_some, rget32_eq 50 l hb (by omega) (by omega), Option.bind_some, if_pos rfl, Option.bind_some, if_pos (by simp [key4])]
  simp [key4, rd]

end Go.Proofs.Ytpeimbbgaccddaa.Pure

/- CrcSums: every row of bytes has the document's sum, and stays as it was. Rows of more than 4096 bytes pass by the law's own guard. -/
import Derived.Test.YtfogmmdkhhnplaaCrcFacts
import Derived.Test.YtfogmmdkhhnplaaExtCrcAwake
import Derived.Test.YtfogmmdkhhnplaaPAllx1
namespace Go.Proofs.Ytfogmmdkhhnplaa.Pure
open Go.RowKit Go.Proofs.Ytfogmmdkhhnplaa.PAll Go.Proofs.YtfogmmdkhhnplaaW.PrintWords Go.Proofs.YtfogmmdkhhnplaaW.PrintLast Go.Proofs.Ytfogmmdkhhnplaa.Math Go.Proofs.Ytfogmmdkhhnplaa.CrcFacts

theorem CrcSums : cambiumlaw03_CrcSums.Pure := by
  intro l _ _ hw
  have hb := isB_of_wf hw
  refine ⟨50000, ?_⟩
  unfold cambiumlaw03_CrcSums.f
  rw [show cambiumlaw03_awake.f = some true from rfl, Option.bind_some, if_pos rfl]
  split
  · rfl
  · rename_i h
    simp only [Option.bind_some, List.length_nil, Nat.zero_add, List.nil_append]
    rw [if_pos (by omega), sum_eq l hb, Option.bind_some, rsum_eq 50000 l hb (by omega) (by omega), Option.bind_some, if_pos rfl]
    simp

end Go.Proofs.Ytfogmmdkhhnplaa.Pure

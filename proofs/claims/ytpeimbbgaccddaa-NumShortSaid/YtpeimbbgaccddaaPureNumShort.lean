/- NumShort: every number, with and without a sign, is written as the reference writes it, and is got again, whatever bytes stand behind (at most 64, by the law's own guard). -/
import Derived.Test.YtpeimbbgaccddaaNumMore
import Derived.Test.YtpeimbbgaccddaaPAllx4
namespace Go.Proofs.Ytpeimbbgaccddaa.Pure
open Go.RowKit Go.Proofs.Ytpeimbbgaccddaa.PAll Go.Proofs.YtpeimbbgaccddaaW.PrintWords Go.Proofs.YtpeimbbgaccddaaW.PrintLast Go.Proofs.Ytpeimbbgaccddaa.Math Go.Proofs.Ytpeimbbgaccddaa.NumFacts

theorem NumShort : cambiumlaw01_NumShort.Pure := by
  intro v w l hv hw _ _ hl
  have hb := isB_of_wf hl
  have b0 : 0 ≤ v ∧ v < 18446744073709551616 := by
    simp [Lit.wf, IntKind.min, IntKind.max, IntKind.bits, IntKind.signed] at hv; omega
  have b1 : -9223372036854775808 ≤ w ∧ w < 9223372036854775808 := by
    simp [Lit.wf, IntKind.min, IntKind.max, IntKind.bits, IntKind.signed] at hw; omega
  have z := zig_bounds b1.1 b1.2
  have n0 := vput_len10 b0.2
  have n1 := vput_len10 z.2
  refine ⟨50, ?_⟩
  unfold cambiumlaw01_NumShort.f
  rw [awake_eq 50 (by omega), Option.bind_some, if_pos rfl]
  split
  · rfl
  rename_i h64
  rw [put_eq 50 v b0.1 b0.2 (by omega), putint_eq 50 w b1.1 b1.2 (by omega), rput_eq 50 v b0.1 b0.2 (by omega), rputint_eq 50 w b1.1 b1.2 (by omega)]
  simp only [Option.bind_some]
  rw [same_eq 50 _ _ (by omega) (by omega), Option.bind_some, if_pos (by simp), same_eq 50 _ _ (by omega) (by omega), Option.bind_some]
  rw [show (50 : Nat) = 49 + 1 from rfl, cambiumlaw01_NumShort.j0, if_neg (by simp)]
  simp only [Option.bind_some, List.nil_append, List.length_nil, Nat.zero_add]
  have e0 := vget_put l b0.1 b0.2
  have e1 := vget_put l z.1 z.2
  rw [if_pos (by omega), if_pos (by omega), get_eq 49 _ (isB_append (vput_isB v b0.1) hb) (by omega), Option.bind_some, if_pos (by omega), if_pos (by omega), getint_eq 49 _ (isB_append (vput_isB _ z.1) hb) (by omega), e0, e1, zag_zig]
  simp

end Go.Proofs.Ytpeimbbgaccddaa.Pure

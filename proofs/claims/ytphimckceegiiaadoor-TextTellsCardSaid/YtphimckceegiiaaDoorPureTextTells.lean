/- TextTells: what it computes is true. -/
import Derived.Test.YtphimckceegiiaaDoorPTxtx8
import Derived.Test.YtphimckceegiiaaDoorTellsWords
import Derived.Test.YtphimckceegiiaaDoorPureTextCuts
namespace Go.Proofs.YtphimckceegiiaaDoor.Pure
open Go.RowKit Go.Proofs.YtphimckceegiiaaDoorW.PrintWords Go.Proofs.YtphimckceegiiaaDoorW.PrintLast Go.Proofs.YtphimckceegiiaaDoorW.PrintMore Go.Proofs.YtphimckceegiiaaDoor.Math
open Go.Proofs.YtphimckceegiiaaDoor.PTxt Go.Proofs.YtphimckceegiiaaDoor.Runes Go.Proofs.YtphimckceegiiaaDoor.Text Go.Proofs.YtphimckceegiiaaDoor.Tells
set_option linter.unusedVariables false
set_option linter.unusedSimpArgs false
theorem i64_bounds {a : Int} (h : (Lit.int .i64 a).wf = true) : -9223372036854775808 ≤ a ∧ a ≤ 9223372036854775807 := by
  have h0 : IntKind.i64.min ≤ a ∧ a ≤ IntKind.i64.max := by simpa [Lit.wf] using h
  exact h0
set_option maxHeartbeats 1000000 in
theorem TextTells : cambiumlaw02_TextTells.Pure := by
  intro s n _ hn
  have hn := i64_bounds hn
  suffices hall : ∀ k, 1300 ≤ k → cambiumlaw02_TextTells.f k s n = some true from ⟨1300, hall 1300 (Nat.le_refl _)⟩
  intro kk hkk
  have haw : cambiumlaw02_awake.f kk = some true := by
    have h := awakeK (kk - 60)
    rw [show 60 + (kk - 60) = kk by omega] at h
    exact h
  unfold cambiumlaw02_TextTells.f
  rw [haw]
  clear haw
  simp only [Option.bind_some, if_true]
  refine ite_t (fun _ => rfl) (fun hsz => ?_)
  have hs : s.size ≤ 600 := by omega
  have hlen : (from_ s 0).length ≤ s.size := by have := from_len s s.size 0 (by omega); omega
  have hri : (runesI s).length = (from_ s 0).length := by unfold runesI; rw [List.length_map]
  have hwl := words_len s (from_ s 0) 0
  have hR : text_Right.f s = some (rightB s) := by unfold text_Right.f; rw [if_pos (by omega), right_same]
  have hL : text_Len.f s = some ((from_ s 0).length : Int) := by unfold text_Len.f; rw [if_pos (by omega)]
  have hC : text_Cut.f s n = some (cutAt s n) := by unfold text_Cut.f; rw [if_pos (by omega)]
  have hW : text_Words.f s = some (wordsF s (from_ s 0) 0) := by unfold text_Words.f; rw [if_pos (by omega)]
  have hO : text_Lower.f s = some (lowerB s) := by unfold text_Lower.f; rw [if_pos (by omega)]
  rw [runes_eq kk s (by omega) (by omega), hR, right_eq kk s (by omega) (by omega), hL, hC, cut_eq kk s n (by omega) (by omega), hW, words_eq kk s (by omega) (by omega), hO, lower_eq kk s (by omega) (by omega)]
  simp only [Option.bind_some, beq_self_eq_true, if_true, hri]
  rw [texts_eq kk _ (by omega) (by omega)]
  simp only [Option.bind_some, if_true]
end Go.Proofs.YtphimckceegiiaaDoor.Pure

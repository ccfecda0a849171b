/- PageFrames: every text's page, of every number, is what the document says, or it is refused; opened at its place it is the text, filled up; at another one, or torn, it isn't opened. -/
import Derived.Test.YtmbhedlplmbfoaaPageFacts
import Derived.Test.YtmbhedlplmbfoaaPAllx3
namespace Go.Proofs.Ytmbhedlplmbfoaa.Pure
open Go.RowKit Go.Proofs.Ytmbhedlplmbfoaa.PAll Go.Proofs.YtmbhedlplmbfoaaW.PrintWords Go.Proofs.YtmbhedlplmbfoaaW.PrintLast Go.Proofs.Ytmbhedlplmbfoaa.Math Go.Proofs.Ytmbhedlplmbfoaa.Same Go.Proofs.Ytmbhedlplmbfoaa.PageFacts

theorem PageFrames : cambiumlaw04_PageFrames.Pure := by
  intro no l other hno _ _ hw ho
  have hb := isB_of_wf hw
  refine ⟨14000, ?_⟩
  unfold cambiumlaw04_PageFrames.f
  rw [show cambiumlaw04_awake.f = some true from rfl, Option.bind_some, if_pos rfl]
  by_cases c0 : (l.length : Int) > 2000
  · rw [if_pos c0]
  rw [if_neg c0]
  by_cases c : no < 0 ∨ 2147483647 < no ∨ 1016 < l.length
  · rw [frame_bad c, Option.bind_some, rframe_bad 14000 no l c (by omega), Option.bind_some, if_pos rfl, same_eq 14000 [] [] (by simp) (by simp), Option.bind_some]
    rfl
  · have h0 : 0 ≤ no := by omega
    have h1 : no ≤ 2147483647 := by omega
    have hl : l.length ≤ 1016 := by omega
    have pl := page_len (no := no) hl
    have pb := page_isB (no := no) hb
    rw [frame_good hb h0 h1 hl, Option.bind_some, rframe_eq 14000 no l hb h0 h1 hl (by omega), Option.bind_some, if_pos rfl]
    dsimp only
    rw [same_eq 14000 _ _ (by omega) (by omega), Option.bind_some]
    show cambiumlaw04_PageFrames.j0 (13999 + 1) no other (pageOf no l) 0 (!decide (pageOf no l = pageOf no l)) = _
    have e1 : page_Open.f no (pageOf no l) = some ((pageOf no l).take 1016, 0) := by rw [open_eq h0 h1 pb pl, if_pos ((page_opens hl hb h0 (by omega)).2 rfl)]
    have e2 : ∃ x, page_Open.f other (pageOf no l) = some (x, if other = no then 0 else 4) := by
      by_cases c2 : other = no
      · subst c2; exact ⟨_, by rw [e1, if_pos rfl]⟩
      · by_cases c3 : other < 0 ∨ 2147483647 < other
        · exact ⟨[], by rw [open_bad c3, if_neg c2]⟩
        · refine ⟨[], ?_⟩
          rw [open_eq (by omega) (by omega) pb pl, if_neg (fun h => c2 ((page_opens hl hb h0 (by omega)).1 h)), if_neg c2]
    obtain ⟨x2, e2⟩ := e2
    have e3 : page_Torn.f (pageOf no l) = some (torn (pageOf no l)) := by unfold page_Torn.f; rw [if_pos ⟨by omega, pb⟩]
    have e4 : page_Open.f no (torn (pageOf no l)) = some ([], 4) := by rw [open_eq h0 h1 (torn_isB pb pl) (torn_len pl), if_neg (torn_shut hl hb)]
    rw [cambiumlaw04_PageFrames.j0, if_neg (by simp), if_pos rfl, e1, Option.bind_some, e2, Option.bind_some, e3, Option.bind_some, e4, Option.bind_some, if_pos rfl, if_pos (by omega), same_eq 13999 _ _ (by rw [List.length_take]; omega) (by rw [List.length_take]; omega), Option.bind_some,
      if_pos (by simp)]
    by_cases c2 : other = no
    · simp [c2]
    · simp [c2]

end Go.Proofs.Ytmbhedlplmbfoaa.Pure

/- PageFills: what a page says, with bytes 0 behind, up to 1016, is the same page; what is handed in stays as it was. -/
import Derived.Test.YtmbhedlplmbfoaaPageFacts
import Derived.Test.YtmbhedlplmbfoaaPAllx2
namespace Go.Proofs.Ytmbhedlplmbfoaa.Pure
open Go.RowKit Go.Proofs.Ytmbhedlplmbfoaa.PAll Go.Proofs.YtmbhedlplmbfoaaW.PrintWords Go.Proofs.YtmbhedlplmbfoaaW.PrintLast Go.Proofs.Ytmbhedlplmbfoaa.Math Go.Proofs.Ytmbhedlplmbfoaa.Same Go.Proofs.Ytmbhedlplmbfoaa.PageFacts

theorem fill_body (no : Int) (l : List Int) (n : Nat) (h : l.length + n ≤ 1016) : body no (l ++ List.replicate n 0) = body no l := by
  unfold body
  rw [List.length_append, List.length_replicate, List.append_assoc l, List.replicate_append_replicate, show n + (1016 - (l.length + n)) = 1016 - l.length by omega]
theorem fill_page (no : Int) (l : List Int) (n : Nat) (h : l.length + n ≤ 1016) : pageOf no (l ++ List.replicate n 0) = pageOf no l := by
  unfold pageOf; rw [fill_body no l n h]

theorem PageFills : cambiumlaw04_PageFills.Pure := by
  intro no l n hno _ _ hw hn
  have hb := isB_of_wf hw
  have b0 : 0 ≤ no ∧ no < 65536 := by
    simp [Lit.wf, IntKind.min, IntKind.max, IntKind.bits, IntKind.signed] at hno; omega
  have b1 : 0 ≤ n ∧ n < 65536 := by
    simp [Lit.wf, IntKind.min, IntKind.max, IntKind.bits, IntKind.signed] at hn; omega
  refine ⟨2000, ?_⟩
  unfold cambiumlaw04_PageFills.f
  rw [show cambiumlaw04_awake.f = some true from rfl, Option.bind_some, if_pos rfl]
  by_cases c0 : (l.length : Int) > 1016
  · rw [if_pos c0]
  rw [if_neg c0]
  have hl : l.length ≤ 1016 := by omega
  rw [wrap_id (x := n) (by omega) (by omega), wrap_id (x := no) (by omega) (by omega), wrap_id (x := 1017 - (l.length : Int)) (by omega) (by omega)]
  have hm0 : 0 ≤ Int.tmod n (1017 - (l.length : Int)) := by rw [Int.tmod_eq_emod_of_nonneg b1.1]; exact Int.emod_nonneg _ (by omega)
  have hm1 : Int.tmod n (1017 - (l.length : Int)) < 1017 - (l.length : Int) := by rw [Int.tmod_eq_emod_of_nonneg b1.1]; exact Int.emod_lt_of_pos _ (by omega)
  obtain ⟨m, hm⟩ := Int.eq_ofNat_of_zero_le hm0
  rw [hm] at hm1 ⊢
  have hp := page_len (no := no) hl
  rw [Option.bind_some, if_pos (by simp; omega), Option.bind_some, if_neg (by omega), if_pos (by omega), List.nil_append, Int.toNat_natCast, if_pos (by omega), Option.bind_some, if_pos (by simp; omega), List.nil_append, Option.bind_some,
    frame_good hb b0.1 (by omega) hl, Option.bind_some, frame_good (isB_append hb (by intro x hx; obtain ⟨_, rfl⟩ := List.mem_replicate.1 hx; omega)) b0.1 (by omega) (by simp; omega), Option.bind_some, fill_page no l m (by omega)]
  dsimp only
  rw [if_pos rfl, if_pos rfl, same_eq 2000 _ _ (by omega) (by omega), Option.bind_some, if_pos (by simp), same_eq 2000 _ _ (by omega) (by omega), Option.bind_some, if_pos (by simp), if_pos (by omega), if_pos (by omega), same_eq 2000 _ _ (by rw [List.length_take]; omega) (by rw [List.length_take]; omega), Option.bind_some]
  have e : (pageOf no l).take (l.length : Int).toNat = l := by
    unfold pageOf body
    rw [Int.toNat_natCast, List.append_assoc, List.append_assoc, List.take_append_of_le_length (by omega), List.take_of_length_le (by omega)]
  rw [e]; simp

end Go.Proofs.Ytmbhedlplmbfoaa.Pure

/- CrcEach: a row's sum is that of its bytes added one by one; adding nothing changes nothing. Rows of more than 600 bytes pass by the law's own guard. -/
import Derived.Test.YtfogmmdkhhnplaaCrcFacts
import Derived.Test.YtfogmmdkhhnplaaExtCrcAwake
import Derived.Test.YtfogmmdkhhnplaaPAllx1
namespace Go.Proofs.Ytfogmmdkhhnplaa.Pure
open Go.RowKit Go.Proofs.Ytfogmmdkhhnplaa.PAll Go.Proofs.YtfogmmdkhhnplaaW.PrintWords Go.Proofs.YtfogmmdkhhnplaaW.PrintLast Go.Proofs.Ytfogmmdkhhnplaa.Math Go.Proofs.Ytfogmmdkhhnplaa.CrcFacts

theorem each_l0 (l : List Int) (s : Int) (hs : 0 ≤ s ∧ s < 4294967296) (hb : IsB l) (hl : l.length ≤ 600) (d : Nat) : ∀ (k i : Nat), i + d = l.length → d + 10000 < k →
    cambiumlaw03_CrcEach.l0 k l s (crcSum (l.take i)) (i : Int) = some true := by
  induction d with
  | zero =>
    intro k i hi hk
    obtain ⟨k, rfl⟩ : ∃ m, k = m + 1 := ⟨k - 1, by omega⟩
    rw [cambiumlaw03_CrcEach.l0, if_neg (by omega), rsum_eq k l hb (by omega) (by omega), Option.bind_some, List.take_of_length_le (by omega), if_pos rfl, more_eq s [] hs.1 hs.2 isB_nil, Option.bind_some, crcMore_nil hs.1 hs.2]
    simp
  | succ d ih =>
    intro k i hi hk
    obtain ⟨k, rfl⟩ : ∃ m, k = m + 1 := ⟨k - 1, by omega⟩
    rw [cambiumlaw03_CrcEach.l0, wrap_id (x := (i : Int) + 1) (by omega) (by omega), if_pos (by omega), if_pos (by omega), if_pos (by omega), if_pos (by omega)]
    rw [show ((i : Int) + 1).toNat = i + 1 by omega, Int.toNat_natCast]
    have e : (l.take (i + 1)).drop i = [rd l (i : Int)] := by
      rw [rd_take_succ (by omega), List.drop_append_of_le_length (by rw [List.length_take]; omega), List.drop_of_length_le (by rw [List.length_take]; omega)]; rfl
    have b := crcMore_bounds 0 (l.take i)
    rw [e, more_eq (crcSum (l.take i)) _ b.1 b.2 (isB_cons (rd_isB hb i) isB_nil), Option.bind_some]
    have e2 : crcMore (crcSum (l.take i)) [rd l (i : Int)] = crcSum (l.take (i + 1)) := by
      unfold crcSum; rw [crcMore_append (isB_take hb i), ← rd_take_succ (by omega)]
    rw [e2]
    exact ih k (i + 1) (by omega) (by omega)

theorem CrcEach : cambiumlaw03_CrcEach.Pure := by
  intro l s _ _ hw hs
  have hb := isB_of_wf hw
  have b0 : 0 ≤ s ∧ s < 4294967296 := by
    simp [Lit.wf, IntKind.min, IntKind.max, IntKind.bits, IntKind.signed] at hs; omega
  refine ⟨50000, ?_⟩
  unfold cambiumlaw03_CrcEach.f
  rw [show cambiumlaw03_awake.f = some true from rfl, Option.bind_some, if_pos rfl]
  split
  · rfl
  · have := each_l0 l s b0 hb (by omega) l.length 50000 0 (by omega) (by omega)
    rw [List.take_zero, crcSum_nil] at this
    exact this

end Go.Proofs.Ytfogmmdkhhnplaa.Pure

/- The reference's Same, printed: whether two rows are one. -/
import Derived.Test.YtblacdnndchghaaRd
import Derived.Test.YtblacdnndchghaaPAllx1
namespace Go.Proofs.Ytblacdnndchghaa.Same
open Go.RowKit Go.Proofs.Ytblacdnndchghaa.PAll Go.Proofs.YtblacdnndchghaaW.PrintWords Go.Proofs.YtblacdnndchghaaW.PrintLast Go.Proofs.YtblacdnndchghaaW.PrintMore Go.Proofs.Ytblacdnndchghaa.Math

theorem same_l0 (a b : List Int) (hab : a.length = b.length) (hn : a.length ≤ 140737488355328) (d : Nat) : ∀ (k i : Nat), i ≤ a.length → a.length - i = d → d < k →
    cambiumref01_Same.l0 k a b (i : Int) = some (decide (a.drop i = b.drop i)) := by
  induction d with
  | zero =>
    intro k i h1 hd hk
    obtain ⟨k, rfl⟩ : ∃ m, k = m + 1 := ⟨k - 1, by omega⟩
    simp only [cambiumref01_Same.l0]
    rw [if_neg (by omega)]
    have : i = a.length := by omega
    subst this
    rw [List.drop_length, hab, List.drop_length]; simp
  | succ d ih =>
    intro k i h1 hd hk
    obtain ⟨k, rfl⟩ : ∃ m, k = m + 1 := ⟨k - 1, by omega⟩
    simp only [cambiumref01_Same.l0]
    rw [if_pos (by omega), if_pos (by omega), if_pos (by omega)]
    rw [rd_drop (l := a) (i := i) (by omega), rd_drop (l := b) (i := i) (by omega)]
    by_cases e : rd a (i : Int) = rd b (i : Int)
    · rw [if_pos e, wrap_id (by omega) (by omega)]
      have := ih k (i + 1) (by omega) (by omega) (by omega)
      rw [show (i : Int) + 1 = ((i + 1 : Nat) : Int) from rfl, this, e]
      simp
    · rw [if_neg e]
      simp [e]

/-- Same: whether two rows are one. -/
theorem same_eq (k : Nat) (a b : List Int) (hn : a.length ≤ 140737488355328) (hk : a.length < k) : cambiumref01_Same.f k a b = some (decide (a = b)) := by
  unfold cambiumref01_Same.f
  by_cases h : a.length = b.length
  · rw [if_pos (by omega)]
    have := same_l0 a b h hn a.length k 0 (by omega) (by omega) hk
    simpa using this
  · rw [if_neg (by omega)]
    have : ¬ a = b := fun e => h (by rw [e])
    simp [this]

end Go.Proofs.Ytblacdnndchghaa.Same

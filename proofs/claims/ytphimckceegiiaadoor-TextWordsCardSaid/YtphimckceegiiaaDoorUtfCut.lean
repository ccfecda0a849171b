/- Runes of a cut: what is decoded in a text's beginning is what is decoded in the text. -/
import Derived.Test.YtphimckceegiiaaDoorTextRange
namespace Go.Proofs.YtphimckceegiiaaDoor.Text
open Go.RowKit Go.Proofs.YtphimckceegiiaaDoorW.PrintWords Go.Proofs.YtphimckceegiiaaDoor.Math Go.Proofs.YtphimckceegiiaaDoor.Runes
set_option linter.unusedVariables false
set_option linter.unusedSimpArgs false
set_option maxRecDepth 100000 in
set_option maxHeartbeats 2000000 in
theorem decN_prefix (n m b0 b1 b2 b3 c1 c2 c3 : Nat) (hm : 1 ≤ m) (hmn : m ≤ n) (h1 : 1 < m → c1 = b1) (h2 : 2 < m → c2 = b2) (h3 : 3 < m → c3 = b3)
    (hw : (Lib.decodeN n b0 b1 b2 b3).2 ≤ m) : Lib.decodeN m b0 c1 c2 c3 = Lib.decodeN n b0 b1 b2 b3 := by
  have hc1 : 1 < m ∨ m = 1 := by omega
  rcases hc1 with hc1 | rfl
  · obtain rfl := h1 hc1
    have hc2 : 2 < m ∨ m = 2 := by omega
    rcases hc2 with hc2 | rfl
    · obtain rfl := h2 hc2
      have hc3 : 3 < m ∨ m = 3 := by omega
      rcases hc3 with hc3 | rfl
      · obtain rfl := h3 hc3
        have e1 : (1 < m) = (1 < n) := propext ⟨fun _ => by omega, fun _ => hc1⟩
        have e2 : (2 < m) = (2 < n) := propext ⟨fun _ => by omega, fun _ => hc2⟩
        have e3 : (3 < m) = (3 < n) := propext ⟨fun _ => by omega, fun _ => hc3⟩
        unfold Lib.decodeN
        simp only [e1, e2, e3]
      · revert hw
        unfold Lib.decodeN
        repeat' split
        all_goals first | (intro _; with_reducible rfl) | (intro hw; exfalso; simp only at hw; omega) | (intro hw; exfalso; omega)
    · revert hw
      unfold Lib.decodeN
      repeat' split
      all_goals first | (intro _; with_reducible rfl) | (intro hw; exfalso; simp only at hw; omega) | (intro hw; exfalso; omega)
  · revert hw
    unfold Lib.decodeN
    repeat' split
    all_goals first | (intro _; with_reducible rfl) | (intro hw; exfalso; simp only at hw; omega) | (intro hw; exfalso; omega)
theorem nb_take (s : ByteArray) (p j : Nat) (hp : p ≤ s.size) (hj : j < p) : nb (s.extract 0 p) j = nb s j := by
  have hg : ∀ (t : ByteArray) (k : Nat), t.get! k = t.data[k]! := fun t k => rfl
  unfold nb
  rw [hg, hg]
  congr 1
  rw [ByteArray.data_extract, getElem!_def, getElem!_def, Array.getElem?_extract]
  rw [if_pos (by rw [data_size]; omega)]
  simp
theorem take_size (s : ByteArray) (p : Nat) (hp : p ≤ s.size) : (s.extract 0 p).size = p := by
  rw [ByteArray.size_extract]; omega
theorem dec_take (s : ByteArray) (p i : Nat) (hp : p ≤ s.size) (hi : i < p) (hw : i + wd s i ≤ p) : Utf8.decode (s.extract 0 p) i = Utf8.decode s i := by
  have hw' := hw
  unfold wd at hw'
  rw [Lib.decode_at] at hw'
  rw [Lib.decode_at, Lib.decode_at, take_size s p hp]
  have e : ∀ j, j < p → ((s.extract 0 p).get! j).toNat = (s.get! j).toNat := fun j hj => nb_take s p j hp hj
  rw [e i hi]
  exact decN_prefix (s.size - i) (p - i) _ _ _ _ _ _ _ (by omega) (by omega) (fun h => e _ (by omega)) (fun h => e _ (by omega)) (fun h => e _ (by omega)) (by omega)
/-- Each start from i on is i at least, and lies inside. -/
theorem from_bound (s : ByteArray) : ∀ (n i p : Nat), (from_ s i)[n]? = some p → i ≤ p ∧ p < s.size := by
  intro n
  induction n with
  | zero =>
    intro i p h
    by_cases hi : i < s.size
    · rw [from_lt hi] at h; simp at h; omega
    · rw [from_ge hi] at h; simp at h
  | succ n ih =>
    intro i p h
    by_cases hi : i < s.size
    · rw [from_lt hi, List.getElem?_cons_succ] at h
      have := ih _ _ h
      omega
    · rw [from_ge hi] at h; simp at h
/-- The starts up to a start. -/
theorem from_take (s : ByteArray) : ∀ (n i p : Nat), p ≤ s.size → (from_ s i)[n]? = some p → from_ (s.extract 0 p) i = (from_ s i).take n
  | n, i, p, hp, h => by
    by_cases hi : i < s.size
    · rw [from_lt hi] at h
      cases n with
      | zero =>
        simp at h
        subst h
        rw [from_ge (by rw [take_size s i hp]; omega)]
        rfl
      | succ n =>
        rw [List.getElem?_cons_succ] at h
        have hge : i + wd s i ≤ p := (from_bound s n (i + wd s i) p h).1
        have hd := dec_bounds s i hi
        have hlt : i < (s.extract 0 p).size := by rw [take_size s p hp]; omega
        have hwd : wd (s.extract 0 p) i = wd s i := by unfold wd; rw [dec_take s p i hp (by omega) hge]
        rw [from_lt hi, from_lt hlt, hwd, from_take s n (i + wd s i) p hp h]
        rfl
    · rw [from_ge hi] at h
      simp at h
  termination_by n => n
end Go.Proofs.YtphimckceegiiaaDoor.Text

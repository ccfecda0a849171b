/- small, plainly: it tells, and what it tells (chapter 26). -/
import Derived.Test.YtoigebnhnkdbbaaPAllx6
import Derived.Test.YtoigebnhnkdbbaaPAllx7
import Derived.Test.YtoigebnhnkdbbaaTrBase
import Derived.Test.YtoigebnhnkdbbaaTrLast
namespace Go.Proofs.Ytoigebnhnkdbbaa.Tr
open Go.RowKit Go.Proofs.YtoigebnhnkdbbaaW.PrintWords Go.Proofs.YtoigebnhnkdbbaaW.PrintLast Go.Proofs.YtoigebnhnkdbbaaW.PrintMore Go.Proofs.Ytoigebnhnkdbbaa.Math Go.Proofs.Ytoigebnhnkdbbaa.PAll
set_option linter.unusedVariables false
set_option linter.unusedSimpArgs false
theorem wsuc (i : Nat) (h : i < 9223372036854775807) : wrap64 ((i : Int) + 1) = ((i + 1 : Nat) : Int) := by unfold wrap64; omega
theorem small_l1 (a b c : Int) (s o : ByteArray) (d e f : Int) (A : List S64) (E : List S66) (L : List S68) (hE : E.length ≤ 9223372036854775807) (n : Nat) :
    ∀ (k i : Nat) (x : Int), E.length - i ≤ n → n < k → ∃ r, cambiumref16_Small.l1 k x (i : Int) a b c s o d e f A E L = some r := by
  induction n with
  | zero =>
    intro k i x h hk
    obtain ⟨k, rfl⟩ : ∃ j, k = j + 1 := ⟨k - 1, by omega⟩
    exact ⟨_, by rw [cambiumref16_Small.l1, if_neg (by omega)]⟩
  | succ n ih =>
    intro k i x h hk
    obtain ⟨k, rfl⟩ : ∃ j, k = j + 1 := ⟨k - 1, by omega⟩
    by_cases hlt : i < E.length
    · rw [cambiumref16_Small.l1, if_pos (by omega)]
      by_cases hx : x ≤ 6000
      · rw [if_pos hx, if_pos (by omega), wsuc i (by omega)]
        exact ih k (i + 1) _ (by omega) (by omega)
      · exact ⟨_, by rw [if_neg hx]⟩
    · exact ⟨_, by rw [cambiumref16_Small.l1, if_neg (by omega)]⟩
theorem small_l0 (a b c : Int) (s o : ByteArray) (d e f : Int) (A : List S64) (E : List S66) (L : List S68) (hA : A.length ≤ 9223372036854775807) (hE : E.length ≤ 9223372036854775807) (n : Nat) :
    ∀ (k i : Nat) (x : Int), A.length - i ≤ n → n + E.length + 2 < k → ∃ r, cambiumref16_Small.l0 k x (i : Int) a b c s o d e f A E L = some r := by
  have hend : ∀ (k : Nat) (x : Int), E.length + 1 < k → ∃ r, cambiumref16_Small.j1 k x a b c s o d e f A E L = some r := by
    intro k x hk
    obtain ⟨k, rfl⟩ : ∃ j, k = j + 1 := ⟨k - 1, by omega⟩
    rw [cambiumref16_Small.j1]
    exact small_l1 a b c s o d e f A E L hE E.length k 0 x (by omega) (by omega)
  induction n with
  | zero =>
    intro k i x h hk
    obtain ⟨k, rfl⟩ : ∃ j, k = j + 1 := ⟨k - 1, by omega⟩
    rw [cambiumref16_Small.l0, if_neg (by omega)]
    exact hend k x (by omega)
  | succ n ih =>
    intro k i x h hk
    obtain ⟨k, rfl⟩ : ∃ j, k = j + 1 := ⟨k - 1, by omega⟩
    by_cases hlt : i < A.length
    · rw [cambiumref16_Small.l0, if_pos (by omega)]
      by_cases hx : x ≤ 6000
      · rw [if_pos hx, if_pos (by omega), wsuc i (by omega)]
        exact ih k (i + 1) _ (by omega) (by omega)
      · rw [if_neg hx]
        exact hend k x (by omega)
    · rw [cambiumref16_Small.l0, if_neg (by omega)]
      exact hend k x (by omega)
theorem small_some (k : Nat) (a b c : Int) (s o : ByteArray) (d e f : Int) (A : List S64) (E : List S66) (L : List S68) (hA : A.length ≤ 9223372036854775807) (hE : E.length ≤ 9223372036854775807) (hk : A.length + E.length + 3 < k) :
    ∃ r, cambiumref16_Small.f k a b c s o d e f A E L = some r := by
  unfold cambiumref16_Small.f
  exact small_l0 a b c s o d e f A E L hA hE A.length k 0 _ (by omega) (by omega)

def Bnd (x : S38) : Prop := x.f5 ≤ 2305843009213693952 ∧ -2305843009213693952 ≤ x.f5 ∧ x.f6 ≤ 2305843009213693952 ∧ -2305843009213693952 ≤ x.f6
theorem small_go (xs : List S38) (hl : xs.length ≤ 80) (B : Nat) (hB : ∀ i : Nat, i < xs.length → (rd_T38 xs i).f8.length ≤ 9223372036854775807 ∧ (rd_T38 xs i).f9.length ≤ 9223372036854775807 ∧ (rd_T38 xs i).f8.length + (rd_T38 xs i).f9.length + 3 < B) (n : Nat) :
    ∀ (k i : Nat), xs.length - i ≤ n → n + B < k → ∃ r, cambiumlaw26_small.l0 k xs (i : Int) = some r ∧ (r = true → ∀ j : Nat, i ≤ j → j < xs.length → Bnd (rd_T38 xs j)) := by
  induction n with
  | zero =>
    intro k i h hk
    obtain ⟨k, rfl⟩ : ∃ j, k = j + 1 := ⟨k - 1, by omega⟩
    exact ⟨true, by rw [cambiumlaw26_small.l0, if_neg (by omega)], fun _ j h1 h2 => by omega⟩
  | succ n ih =>
    intro k i h hk
    obtain ⟨k, rfl⟩ : ∃ j, k = j + 1 := ⟨k - 1, by omega⟩
    by_cases hlt : i < xs.length
    · obtain ⟨h8, h9, hB2⟩ := hB i hlt
      rw [cambiumlaw26_small.l0, if_pos (by omega), if_pos (by omega)]
      obtain ⟨r, hr⟩ := small_some k ((rd_T38 xs i).f0) ((rd_T38 xs i).f1) ((rd_T38 xs i).f2) ((rd_T38 xs i).f3) ((rd_T38 xs i).f4) ((rd_T38 xs i).f5) ((rd_T38 xs i).f6) ((rd_T38 xs i).f7) ((rd_T38 xs i).f8) ((rd_T38 xs i).f9) ((rd_T38 xs i).f10) h8 h9 (by omega)
      rw [hr, Option.bind_some]
      cases r with
      | false => exact ⟨false, rfl, fun h => by cases h⟩
      | true =>
        rw [if_pos rfl]
        by_cases c1 : (rd_T38 xs i).f5 > 2305843009213693952
        · exact ⟨false, by rw [if_pos c1], fun h => by cases h⟩
        rw [if_neg c1]
        by_cases c2 : (rd_T38 xs i).f5 < (-2305843009213693952)
        · exact ⟨false, by rw [if_pos c2], fun h => by cases h⟩
        rw [if_neg c2]
        by_cases c3 : (rd_T38 xs i).f6 > 2305843009213693952
        · exact ⟨false, by rw [if_pos c3], fun h => by cases h⟩
        rw [if_neg c3]
        by_cases c4 : (rd_T38 xs i).f6 < (-2305843009213693952)
        · exact ⟨false, by rw [if_pos c4], fun h => by cases h⟩
        rw [if_neg c4, wsuc i (by omega)]
        obtain ⟨r2, h1, h2⟩ := ih k (i + 1) (by omega) (by omega)
        refine ⟨r2, h1, fun hr2 j h3 h4 => ?_⟩
        by_cases hji : j = i
        · rw [hji]; exact ⟨by omega, by omega, by omega, by omega⟩
        · exact h2 hr2 j (by omega) h4
    · exact ⟨true, by rw [cambiumlaw26_small.l0, if_neg (by omega)], fun _ j h1 h2 => by omega⟩
theorem bound_of (xs : List S38) : ∀ n, n ≤ xs.length → ∃ B : Nat, ∀ i : Nat, i < n → (rd_T38 xs i).f8.length + (rd_T38 xs i).f9.length + 3 < B := by
  intro n
  induction n with
  | zero => intro _; exact ⟨0, fun i h => by omega⟩
  | succ n ih =>
    intro h
    obtain ⟨B, hB⟩ := ih (by omega)
    refine ⟨B + (rd_T38 xs n).f8.length + (rd_T38 xs n).f9.length + 4, fun i hi => ?_⟩
    by_cases e : i = n
    · subst e; omega
    · have := hB i (by omega); omega
theorem small_tot (xs : List S38) (hb : ∀ i : Nat, i < xs.length → (rd_T38 xs i).f8.length ≤ 9223372036854775807 ∧ (rd_T38 xs i).f9.length ≤ 9223372036854775807) : ∃ K r, cambiumlaw26_small.f K xs = some r ∧ (r = true → xs.length ≤ 80 ∧ ∀ j : Nat, j < xs.length → Bnd (rd_T38 xs j)) := by
  by_cases hl : xs.length ≤ 80
  · obtain ⟨B, hB⟩ := bound_of xs xs.length (Nat.le_refl _)
    obtain ⟨r, h1, h2⟩ := small_go xs hl B (fun i hi => ⟨(hb i hi).1, (hb i hi).2, hB i hi⟩) xs.length (xs.length + B + 1) 0 (by omega) (by omega)
    exact ⟨xs.length + B + 1, r, by unfold cambiumlaw26_small.f; rw [if_neg (by omega)]; exact h1, fun hr => ⟨hl, fun j hj => h2 hr j (Nat.zero_le _) hj⟩⟩
  · exact ⟨0, false, by unfold cambiumlaw26_small.f; rw [if_pos (by omega)], fun h => by cases h⟩
end Go.Proofs.Ytoigebnhnkdbbaa.Tr

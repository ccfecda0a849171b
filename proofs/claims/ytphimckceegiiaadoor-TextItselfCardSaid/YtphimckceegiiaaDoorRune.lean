/- What the printed function Rune of the reference of chapter 2 comes to: the rune that Go's own decoder finds. -/
import Derived.Test.YtphimckceegiiaaDoorUtf
import Derived.Test.YtphimckceegiiaaDoorPTxtx4
namespace Go.Proofs.YtphimckceegiiaaDoor.Runes
open Go.RowKit Go.Proofs.YtphimckceegiiaaDoor.PTxt Go.Proofs.YtphimckceegiiaaDoorW.PrintWords Go.Proofs.YtphimckceegiiaaDoorW.PrintLast Go.Proofs.YtphimckceegiiaaDoorW.PrintMore Go.Proofs.YtphimckceegiiaaDoor.Math
set_option linter.unusedVariables false

theorem bt_nb (s : ByteArray) (i : Nat) (h : i < s.size) : bt s (i : Int) = (nb s i : Int) := by
  unfold bt nb
  rw [dif_pos (by simpa using h)]
  simp only [Int.toNat_natCast]
  rw [ByteArray.get!, getElem!_pos s.data i h]
  rfl

theorem tdiv64 {x : Int} (h : 0 ≤ x) (h1 : x < 256) : Int.tdiv x 64 % 256 = x / 64 := by rw [Int.tdiv_eq_ediv_of_nonneg h]; omega
theorem l0_step (k : Nat) (t : ByteArray) (n : Nat) (v least : Int) (i : Nat) (hi : i < n) (hsz : n ≤ t.size) (hn : n ≤ 4) (h0 : 0 ≤ v) (h1 : v ≤ 16777216) :
    cambiumref02_Rune.l0 (k + 1) t (n : Int) v least (i : Int) = if nb t i / 64 = 2 then cambiumref02_Rune.l0 k t (n : Int) (v * 64 + ((nb t i % 64 : Nat) : Int)) least ((i + 1 : Nat) : Int) else some (65533, 1) := by
  have hb := nb_lt t i
  rw [cambiumref02_Rune.l0, if_pos (by omega), if_pos (by omega), if_pos (by omega), bt_nb t i (by omega), tdiv64 (by omega) (by omega), wrap_id (x := (nb t i : Int)) (by omega) (by omega), Int.tmod_eq_emod_of_nonneg (by omega), wrap_id (x := v * 64) (by omega) (by omega), wrap_id (x := (i : Int) + 1) (by omega) (by omega), wrap_id (by omega) (by omega)]
  by_cases h : nb t i / 64 = 2
  · rw [if_pos (by omega), if_pos h]; congr 1
  · rw [if_neg (by omega), if_neg h]
def okRune (v least : Int) : Bool := decide (least ≤ v ∧ v ≤ 1114111 ∧ ¬ (55296 ≤ v ∧ v < 57344))
theorem l0_end (k : Nat) (t : ByteArray) (n : Nat) (v least : Int) : cambiumref02_Rune.l0 (k + 1) t (n : Int) v least (n : Int) = if okRune v least = true then some (v, (n : Int)) else some (65533, 1) := by
  rw [cambiumref02_Rune.l0, if_neg (by omega)]
  unfold okRune
  by_cases h1 : v < least
  · rw [if_pos h1, if_neg (by simp; omega)]
  · by_cases h2 : v > 1114111
    · rw [if_neg h1, if_pos h2, if_neg (by simp; omega)]
    · by_cases h3 : v ≥ 55296
      · by_cases h4 : v < 57344
        · rw [if_neg h1, if_neg h2, if_pos h3, if_pos h4, if_neg (by simp; omega)]
        · rw [if_neg h1, if_neg h2, if_pos h3, if_neg h4, if_pos (by simp; omega)]
      · rw [if_neg h1, if_neg h2, if_neg h3, if_pos (by simp; omega)]
theorem j3_eq (k : Nat) (t : ByteArray) (n : Nat) (v least : Int) : cambiumref02_Rune.j3 (k + 1) t (n : Int) v least = if t.size < n then some (65533, 1) else cambiumref02_Rune.l0 k t (n : Int) v least 1 := by
  rw [cambiumref02_Rune.j3]
  by_cases h : t.size < n
  · rw [if_pos (by omega), if_pos h]
  · rw [if_neg (by omega), if_neg h]

theorem rune_byte (k : Nat) (t : ByteArray) (h0 : 0 < t.size) : cambiumref02_Rune.f (k + 12) t =
    (if nb t 0 < 128 then some ((nb t 0 : Int), 1)
     else if nb t 0 < 194 ∨ 245 ≤ nb t 0 then some (65533, 1)
     else if nb t 0 < 224 then cambiumref02_Rune.j3 (k + 11) t ((2 : Nat) : Int) ((nb t 0 % 32 : Nat) : Int) 128
     else if nb t 0 < 240 then cambiumref02_Rune.j3 (k + 10) t ((3 : Nat) : Int) ((nb t 0 % 16 : Nat) : Int) 2048
     else cambiumref02_Rune.j3 (k + 9) t ((4 : Nat) : Int) ((nb t 0 % 8 : Nat) : Int) 65536) := by
  have hb := nb_lt t 0
  have hbt := bt_nb t 0 h0
  rw [show ((0 : Nat) : Int) = 0 from rfl] at hbt
  unfold cambiumref02_Rune.f
  rw [if_pos (by omega), hbt, wrap_id (by omega) (by omega)]
  generalize hc : nb t 0 = c at *
  have m32 : Int.tmod (c : Int) 32 = ((c % 32 : Nat) : Int) := by rw [Int.tmod_eq_emod_of_nonneg (by omega)]; omega
  have m16 : Int.tmod (c : Int) 16 = ((c % 16 : Nat) : Int) := by rw [Int.tmod_eq_emod_of_nonneg (by omega)]; omega
  have m8 : Int.tmod (c : Int) 8 = ((c % 8 : Nat) : Int) := by rw [Int.tmod_eq_emod_of_nonneg (by omega)]; omega
  by_cases h1 : c < 128
  · rw [if_neg (by omega), if_pos h1, cambiumref02_Rune.j0, if_neg (by simp), if_neg (by omega), cambiumref02_Rune.j1, if_neg (by simp), if_neg (by omega), cambiumref02_Rune.j2, if_neg (by simp), if_neg (by omega)]
    have e := j3_eq (k + 8) t 1 (c : Int) 0
    rw [show ((1 : Nat) : Int) = 1 from rfl] at e
    rw [e, if_neg (by omega)]
    have e2 := l0_end (k + 7) t 1 (c : Int) 0
    rw [show ((1 : Nat) : Int) = 1 from rfl] at e2
    rw [e2, if_pos (by unfold okRune; simp; omega)]
  rw [if_neg h1]
  by_cases h2 : c < 194
  · rw [if_neg (show ¬ (c : Int) ≥ 194 by omega), if_pos (show c < 194 ∨ 245 ≤ c from .inl h2), cambiumref02_Rune.j0, if_neg (by simp), if_neg (by omega), cambiumref02_Rune.j1, if_neg (by simp), if_neg (by omega), cambiumref02_Rune.j2, if_neg (by simp), if_pos (by omega)]
  rw [if_pos (show (c : Int) ≥ 194 by omega)]
  by_cases h3 : c < 224
  · rw [if_neg (show ¬ (c < 194 ∨ 245 ≤ c) by omega), if_pos h3, cambiumref02_Rune.j0, if_pos (by simpa using (by omega : (c : Int) < 224)), m32]; rfl
  rw [cambiumref02_Rune.j0, if_neg (show ¬ decide ((c : Int) < 224) = true by simp; omega), if_pos (show (c : Int) ≥ 224 by omega)]
  by_cases h4 : c < 240
  · rw [if_neg (show ¬ (c < 194 ∨ 245 ≤ c) by omega), if_neg h3, if_pos h4, cambiumref02_Rune.j1, if_pos (by simpa using (by omega : (c : Int) < 240)), m16]; rfl
  rw [cambiumref02_Rune.j1, if_neg (show ¬ decide ((c : Int) < 240) = true by simp; omega), if_pos (show (c : Int) ≥ 240 by omega)]
  by_cases h5 : c < 245
  · rw [if_neg (show ¬ (c < 194 ∨ 245 ≤ c) by omega), if_neg h3, if_neg h4, cambiumref02_Rune.j2, if_pos (by simpa using (by omega : (c : Int) < 245)), m8]; rfl
  · rw [if_pos (show c < 194 ∨ 245 ≤ c by omega), cambiumref02_Rune.j2, if_neg (show ¬ decide ((c : Int) < 245) = true by simp; omega), if_pos (by omega)]

theorem rune_eq (k : Nat) (t : ByteArray) (h0 : 0 < t.size) (hk : 12 ≤ k) : cambiumref02_Rune.f k t = some (((Utf8.decode t 0).1 : Int), ((Utf8.decode t 0).2 : Int)) := by
  obtain ⟨k, rfl⟩ : ∃ m, k = m + 12 := ⟨k - 12, by omega⟩
  rw [rune_byte k t h0, Lib.decode_at]
  change _ = some (((Lib.decodeN (t.size - 0) (nb t 0) (nb t (0 + 1)) (nb t (0 + 2)) (nb t (0 + 3))).1 : Int), ((Lib.decodeN (t.size - 0) (nb t 0) (nb t (0 + 1)) (nb t (0 + 2)) (nb t (0 + 3))).2 : Int))
  rw [show t.size - 0 = t.size from rfl, show 0 + 1 = 1 from rfl, show 0 + 2 = 2 from rfl, show 0 + 3 = 3 from rfl]
  have b0 := nb_lt t 0
  have b1 := nb_lt t 1
  have b2 := nb_lt t 2
  have b3 := nb_lt t 3
  have s1 := fun (kk n : Nat) (v least : Int) (hi : 1 < n) (hsz : n ≤ t.size) (hn : n ≤ 4) (h0 : 0 ≤ v) (h1 : v ≤ 16777216) => l0_step kk t n v least 1 hi hsz hn h0 h1
  have s2 := fun (kk n : Nat) (v least : Int) (hi : 2 < n) (hsz : n ≤ t.size) (hn : n ≤ 4) (h0 : 0 ≤ v) (h1 : v ≤ 16777216) => l0_step kk t n v least 2 hi hsz hn h0 h1
  have s3 := fun (kk n : Nat) (v least : Int) (hi : 3 < n) (hsz : n ≤ t.size) (hn : n ≤ 4) (h0 : 0 ≤ v) (h1 : v ≤ 16777216) => l0_step kk t n v least 3 hi hsz hn h0 h1
  have e2 := fun (kk : Nat) (v least : Int) => l0_end kk t 2 v least
  have e3 := fun (kk : Nat) (v least : Int) => l0_end kk t 3 v least
  have e4 := fun (kk : Nat) (v least : Int) => l0_end kk t 4 v least
  simp only [Int.natCast_one] at s1
  generalize nb t 0 = c0 at *
  generalize nb t 1 = c1 at *
  generalize nb t 2 = c2 at *
  generalize nb t 3 = c3 at *
  unfold Lib.decodeN
  by_cases h1 : c0 < 128
  · rw [if_pos h1, if_pos h1]; rfl
  rw [if_neg h1, if_neg h1]
  by_cases h2 : c0 < 194 ∨ 245 ≤ c0
  · rw [if_pos h2]
    by_cases g1 : c0 / 32 = 6 ∧ (1 < t.size ∧ c1 / 64 = 2)
    · rw [if_pos g1, if_neg (by omega)]; rfl
    rw [if_neg g1, if_neg (by omega)]
    by_cases g3 : c0 / 8 = 30 ∧ (1 < t.size ∧ c1 / 64 = 2) ∧ (2 < t.size ∧ c2 / 64 = 2) ∧ (3 < t.size ∧ c3 / 64 = 2)
    · rw [if_pos g3, if_neg (by omega)]; rfl
    · rw [if_neg g3]; rfl
  rw [if_neg h2]
  by_cases h3 : c0 < 224
  · rw [if_pos h3, j3_eq]
    by_cases g2 : t.size < 2
    · rw [if_pos g2, if_neg (by omega), if_neg (by omega), if_neg (by omega)]; rfl
    rw [if_neg g2, s1 _ 2 _ _ (by omega) (by omega) (by omega) (by omega) (by omega)]
    by_cases g1 : c1 / 64 = 2
    · rw [if_pos g1, show ((1 + 1 : Nat) : Int) = ((2 : Nat) : Int) from rfl, e2, if_pos (by unfold okRune; simp; omega), if_pos (show c0 / 32 = 6 ∧ (1 < t.size ∧ c1 / 64 = 2) from ⟨by omega, by omega, g1⟩), if_pos (by omega)]
      simp
    · rw [if_neg g1, if_neg (by omega), if_neg (by omega), if_neg (by omega)]; rfl
  rw [if_neg h3]
  by_cases h4 : c0 < 240
  · rw [if_pos h4, j3_eq]
    by_cases g0 : t.size < 3
    · rw [if_pos g0, if_neg (by omega), if_neg (by omega), if_neg (by omega)]; rfl
    rw [if_neg g0, s1 _ 3 _ _ (by omega) (by omega) (by omega) (by omega) (by omega)]
    by_cases g1 : c1 / 64 = 2
    · rw [if_pos g1]
      have := s2 (k + 7) 3 (((c0 % 16 : Nat) : Int) * 64 + ((c1 % 64 : Nat) : Int)) 2048 (by omega) (by omega) (by omega) (by omega) (by omega)
      rw [show ((1 + 1 : Nat) : Int) = ((2 : Nat) : Int) from rfl, this]
      by_cases g2 : c2 / 64 = 2
      · rw [if_pos g2, show ((2 + 1 : Nat) : Int) = ((3 : Nat) : Int) from rfl, e3]
        by_cases g3 : c0 % 16 * 4096 + c1 % 64 * 64 + c2 % 64 ≥ 2048 ∧ (c0 % 16 * 4096 + c1 % 64 * 64 + c2 % 64 < 55296 ∨ (57344 ≤ c0 % 16 * 4096 + c1 % 64 * 64 + c2 % 64 ∧ c0 % 16 * 4096 + c1 % 64 * 64 + c2 % 64 ≤ 1114111))
        · rw [if_pos (by unfold okRune; simp; omega), if_neg (by omega), if_pos (show c0 / 16 = 14 ∧ (1 < t.size ∧ c1 / 64 = 2) ∧ (2 < t.size ∧ c2 / 64 = 2) from ⟨by omega, ⟨by omega, g1⟩, by omega, g2⟩), if_pos g3]
          simp; omega
        · rw [if_neg (by unfold okRune; simp; omega), if_neg (by omega), if_pos (show c0 / 16 = 14 ∧ (1 < t.size ∧ c1 / 64 = 2) ∧ (2 < t.size ∧ c2 / 64 = 2) from ⟨by omega, ⟨by omega, g1⟩, by omega, g2⟩), if_neg g3]; rfl
      · rw [if_neg g2, if_neg (by omega), if_neg (by omega), if_neg (by omega)]; rfl
    · rw [if_neg g1, if_neg (by omega), if_neg (by omega), if_neg (by omega)]; rfl
  rw [if_neg h4, j3_eq]
  by_cases g0 : t.size < 4
  · rw [if_pos g0, if_neg (by omega), if_neg (by omega), if_neg (by omega)]; rfl
  rw [if_neg g0, s1 _ 4 _ _ (by omega) (by omega) (by omega) (by omega) (by omega)]
  by_cases g1 : c1 / 64 = 2
  · rw [if_pos g1]
    have := s2 (k + 6) 4 (((c0 % 8 : Nat) : Int) * 64 + ((c1 % 64 : Nat) : Int)) 65536 (by omega) (by omega) (by omega) (by omega) (by omega)
    rw [show ((1 + 1 : Nat) : Int) = ((2 : Nat) : Int) from rfl, this]
    by_cases g2 : c2 / 64 = 2
    · rw [if_pos g2]
      have := s3 (k + 5) 4 ((((c0 % 8 : Nat) : Int) * 64 + ((c1 % 64 : Nat) : Int)) * 64 + ((c2 % 64 : Nat) : Int)) 65536 (by omega) (by omega) (by omega) (by omega) (by omega)
      rw [show ((2 + 1 : Nat) : Int) = ((3 : Nat) : Int) from rfl, this]
      by_cases g3 : c3 / 64 = 2
      · rw [if_pos g3, show ((3 + 1 : Nat) : Int) = ((4 : Nat) : Int) from rfl, e4]
        by_cases g4 : c0 % 8 * 262144 + c1 % 64 * 4096 + c2 % 64 * 64 + c3 % 64 ≥ 65536 ∧ (c0 % 8 * 262144 + c1 % 64 * 4096 + c2 % 64 * 64 + c3 % 64 < 55296 ∨ (57344 ≤ c0 % 8 * 262144 + c1 % 64 * 4096 + c2 % 64 * 64 + c3 % 64 ∧ c0 % 8 * 262144 + c1 % 64 * 4096 + c2 % 64 * 64 + c3 % 64 ≤ 1114111))
        · rw [if_pos (by unfold okRune; simp; omega), if_neg (by omega), if_neg (by omega), if_pos (show c0 / 8 = 30 ∧ (1 < t.size ∧ c1 / 64 = 2) ∧ (2 < t.size ∧ c2 / 64 = 2) ∧ (3 < t.size ∧ c3 / 64 = 2) from ⟨by omega, ⟨by omega, g1⟩, ⟨by omega, g2⟩, by omega, g3⟩), if_pos g4]
          simp; omega
        · rw [if_neg (by unfold okRune; simp; omega), if_neg (by omega), if_neg (by omega), if_pos (show c0 / 8 = 30 ∧ (1 < t.size ∧ c1 / 64 = 2) ∧ (2 < t.size ∧ c2 / 64 = 2) ∧ (3 < t.size ∧ c3 / 64 = 2) from ⟨by omega, ⟨by omega, g1⟩, ⟨by omega, g2⟩, by omega, g3⟩), if_neg g4]; rfl
      · rw [if_neg g3, if_neg (by omega), if_neg (by omega), if_neg (by omega)]; rfl
    · rw [if_neg g2, if_neg (by omega), if_neg (by omega), if_neg (by omega)]; rfl
  · rw [if_neg g1, if_neg (by omega), if_neg (by omega), if_neg (by omega)]; rfl

end Go.Proofs.YtphimckceegiiaaDoor.Runes

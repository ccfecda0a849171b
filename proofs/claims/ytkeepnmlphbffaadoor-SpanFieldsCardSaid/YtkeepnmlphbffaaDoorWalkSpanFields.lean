/- What the printed function Rune of the reference of chapter 2 comes to: the rune that Go's own decoder finds. -/
import Derived.Test.YtkeepnmlphbffaaDoorUtf
import Derived.Test.YtkeepnmlphbffaaDoorPSpx10
import Derived.Lib.ValidLaws
import Derived.Test.YtkeepnmlphbffaaDoorPSpx11
import Derived.Test.YtkeepnmlphbffaaDoorExtRight
import Derived.Test.YtkeepnmlphbffaaDoorRd
import Derived.Test.YtkeepnmlphbffaaDoorPSpx12
import Derived.Test.YtkeepnmlphbffaaDoorPSpx8
import Derived.Test.YtkeepnmlphbffaaDoorPSpx9
import Derived.Test.YtkeepnmlphbffaaDoorExtSpan
import Derived.Test.YtkeepnmlphbffaaDoorPSpx7
import Derived.Test.YtkeepnmlphbffaaDoorPSpx13
import Derived.Test.YtkeepnmlphbffaaDoorReads
namespace Go.Proofs.YtkeepnmlphbffaaDoor.Runes
open Go.RowKit Go.Proofs.YtkeepnmlphbffaaDoor.PSp Go.Proofs.YtkeepnmlphbffaaDoorW.PrintWords Go.Proofs.YtkeepnmlphbffaaDoorW.PrintLast Go.Proofs.YtkeepnmlphbffaaDoorW.PrintMore Go.Proofs.YtkeepnmlphbffaaDoor.Math
set_option linter.unusedVariables false

theorem bt_nb (s : ByteArray) (i : Nat) (h : i < s.size) : bt s (i : Int) = (nb s i : Int) := by
  unfold bt nb
  rw [dif_pos (by simpa using h)]
  simp only [Int.toNat_natCast]
  rw [ByteArray.get!, getElem!_pos s.data i h]
  rfl

theorem tdiv64 {x : Int} (h : 0 ≤ x) (h1 : x < 256) : Int.tdiv x 64 % 256 = x / 64 := by rw [Int.tdiv_eq_ediv_of_nonneg h]; omega
theorem l0_step (k : Nat) (t : ByteArray) (n : Nat) (v least : Int) (i : Nat) (hi : i < n) (hsz : n ≤ t.size) (hn : n ≤ 4) (h0 : 0 ≤ v) (h1 : v ≤ 16777216) :
    cambiumref02_Rune.l0 (k + 1) t (n : Int) v least (i : Int) = if nb t i / 64 = 2 then cambiumref02_Rune.l0 k t (n : Int) (v * 64 + ((nb t i % 64 : Nat) : Int)) least ((i + 1 : Nat) : Int) else some (65533, 1) := by
  have hb := nb_lt t i
  rw [cambiumref02_Rune.l0, if_pos (by omega), if_pos (by omega), if_pos (by omega), bt_nb t i (by omega), tdiv64 (by omega) (by omega), wrap_id (x := (nb t i : Int)) (by omega) (by omega), Int.tmod_eq_emod_of_nonneg (by omega), wrap_id (x := v * 64) (by omega) (by omega), wrap_id (x := (i : Int) + 1) (by omega) (by omega), wrap_id (by omega) (by omega)]
  by_cases h : nb t i / 64 = 2
  · rw [if_pos (by omega), if_pos h]; congr 1
  · rw [if_neg (by omega), if_neg h]
def okRune (v least : Int) : Bool := decide (least ≤ v ∧ v ≤ 1114111 ∧ ¬ (55296 ≤ v ∧ v < 57344))
theorem l0_end (k : Nat) (t : ByteArray) (n : Nat) (v least : Int) : cambiumref02_Rune.l0 (k + 1) t (n : Int) v least (n : Int) = if okRune v least = true then some (v, (n : Int)) else some (65533, 1) := by
  rw [cambiumref02_Rune.l0, if_neg (by omega)]
  unfold okRune
  by_cases h1 : v < least
  · rw [if_pos h1, if_neg (by simp; omega)]
  · by_cases h2 : v > 1114111
    · rw [if_neg h1, if_pos h2, if_neg (by simp; omega)]
    · by_cases h3 : v ≥ 55296
      · by_cases h4 : v < 57344
        · rw [if_neg h1, if_neg h2, if_pos h3, if_pos h4, if_neg (by simp; omega)]
        · rw [if_neg h1, if_neg h2, if_pos h3, if_neg h4, if_pos (by simp; omega)]
      · rw [if_neg h1, if_neg h2, if_neg h3, if_pos (by simp; omega)]
theorem j3_eq (k : Nat) (t : ByteArray) (n : Nat) (v least : Int) : cambiumref02_Rune.j3 (k + 1) t (n : Int) v least = if t.size < n then some (65533, 1) else cambiumref02_Rune.l0 k t (n : Int) v least 1 := by
  rw [cambiumref02_Rune.j3]
  by_cases h : t.size < n
  · rw [if_pos (by omega), if_pos h]
  · rw [if_neg (by omega), if_neg h]

theorem rune_byte (k : Nat) (t : ByteArray) (h0 : 0 < t.size) : cambiumref02_Rune.f (k + 12) t =
    (if nb t 0 < 128 then some ((nb t 0 : Int), 1)
     else if nb t 0 < 194 ∨ 245 ≤ nb t 0 then some (65533, 1)
     else if nb t 0 < 224 then cambiumref02_Rune.j3 (k + 11) t ((2 : Nat) : Int) ((nb t 0 % 32 : Nat) : Int) 128
     else if nb t 0 < 240 then cambiumref02_Rune.j3 (k + 10) t ((3 : Nat) : Int) ((nb t 0 % 16 : Nat) : Int) 2048
     else cambiumref02_Rune.j3 (k + 9) t ((4 : Nat) : Int) ((nb t 0 % 8 : Nat) : Int) 65536) := by
  have hb := nb_lt t 0
  have hbt := bt_nb t 0 h0
  rw [show ((0 : Nat) : Int) = 0 from rfl] at hbt
  unfold cambiumref02_Rune.f
  rw [if_pos (by omega), hbt, wrap_id (by omega) (by omega)]
  generalize hc : nb t 0 = c at *
  have m32 : Int.tmod (c : Int) 32 = ((c % 32 : Nat) : Int) := by rw [Int.tmod_eq_emod_of_nonneg (by omega)]; omega
  have m16 : Int.tmod (c : Int) 16 = ((c % 16 : Nat) : Int) := by rw [Int.tmod_eq_emod_of_nonneg (by omega)]; omega
  have m8 : Int.tmod (c : Int) 8 = ((c % 8 : Nat) : Int) := by rw [Int.tmod_eq_emod_of_nonneg (by omega)]; omega
  by_cases h1 : c < 128
  · rw [if_neg (by omega), if_pos h1, cambiumref02_Rune.j0, if_neg (by simp), if_neg (by omega), cambiumref02_Rune.j1, if_neg (by simp), if_neg (by omega), cambiumref02_Rune.j2, if_neg (by simp), if_neg (by omega)]
    have e := j3_eq (k + 8) t 1 (c : Int) 0
    rw [show ((1 : Nat) : Int) = 1 from rfl] at e
    rw [e, if_neg (by omega)]
    have e2 := l0_end (k + 7) t 1 (c : Int) 0
    rw [show ((1 : Nat) : Int) = 1 from rfl] at e2
    rw [e2, if_pos (by unfold okRune; simp; omega)]
  rw [if_neg h1]
  by_cases h2 : c < 194
  · rw [if_neg (show ¬ (c : Int) ≥ 194 by omega), if_pos (show c < 194 ∨ 245 ≤ c from .inl h2), cambiumref02_Rune.j0, if_neg (by simp), if_neg (by omega), cambiumref02_Rune.j1, if_neg (by simp), if_neg (by omega), cambiumref02_Rune.j2, if_neg (by simp), if_pos (by omega)]
  rw [if_pos (show (c : Int) ≥ 194 by omega)]
  by_cases h3 : c < 224
  · rw [if_neg (show ¬ (c < 194 ∨ 245 ≤ c) by omega), if_pos h3, cambiumref02_Rune.j0, if_pos (by simpa using (by omega : (c : Int) < 224)), m32]; rfl
  rw [cambiumref02_Rune.j0, if_neg (show ¬ decide ((c : Int) < 224) = true by simp; omega), if_pos (show (c : Int) ≥ 224 by omega)]
  by_cases h4 : c < 240
  · rw [if_neg (show ¬ (c < 194 ∨ 245 ≤ c) by omega), if_neg h3, if_pos h4, cambiumref02_Rune.j1, if_pos (by simpa using (by omega : (c : Int) < 240)), m16]; rfl
  rw [cambiumref02_Rune.j1, if_neg (show ¬ decide ((c : Int) < 240) = true by simp; omega), if_pos (show (c : Int) ≥ 240 by omega)]
  by_cases h5 : c < 245
  · rw [if_neg (show ¬ (c < 194 ∨ 245 ≤ c) by omega), if_neg h3, if_neg h4, cambiumref02_Rune.j2, if_pos (by simpa using (by omega : (c : Int) < 245)), m8]; rfl
  · rw [if_pos (show c < 194 ∨ 245 ≤ c by omega), cambiumref02_Rune.j2, if_neg (show ¬ decide ((c : Int) < 245) = true by simp; omega), if_pos (by omega)]

theorem rune_eq (k : Nat) (t : ByteArray) (h0 : 0 < t.size) (hk : 12 ≤ k) : cambiumref02_Rune.f k t = some (((Utf8.decode t 0).1 : Int), ((Utf8.decode t 0).2 : Int)) := by
  obtain ⟨k, rfl⟩ : ∃ m, k = m + 12 := ⟨k - 12, by omega⟩
  rw [rune_byte k t h0, Lib.decode_at]
  change _ = some (((Lib.decodeN (t.size - 0) (nb t 0) (nb t (0 + 1)) (nb t (0 + 2)) (nb t (0 + 3))).1 : Int), ((Lib.decodeN (t.size - 0) (nb t 0) (nb t (0 + 1)) (nb t (0 + 2)) (nb t (0 + 3))).2 : Int))
  rw [show t.size - 0 = t.size from rfl, show 0 + 1 = 1 from rfl, show 0 + 2 = 2 from rfl, show 0 + 3 = 3 from rfl]
  have b0 := nb_lt t 0
  have b1 := nb_lt t 1
  have b2 := nb_lt t 2
  have b3 := nb_lt t 3
  have s1 := fun (kk n : Nat) (v least : Int) (hi : 1 < n) (hsz : n ≤ t.size) (hn : n ≤ 4) (h0 : 0 ≤ v) (h1 : v ≤ 16777216) => l0_step kk t n v least 1 hi hsz hn h0 h1
  have s2 := fun (kk n : Nat) (v least : Int) (hi : 2 < n) (hsz : n ≤ t.size) (hn : n ≤ 4) (h0 : 0 ≤ v) (h1 : v ≤ 16777216) => l0_step kk t n v least 2 hi hsz hn h0 h1
  have s3 := fun (kk n : Nat) (v least : Int) (hi : 3 < n) (hsz : n ≤ t.size) (hn : n ≤ 4) (h0 : 0 ≤ v) (h1 : v ≤ 16777216) => l0_step kk t n v least 3 hi hsz hn h0 h1
  have e2 := fun (kk : Nat) (v least : Int) => l0_end kk t 2 v least
  have e3 := fun (kk : Nat) (v least : Int) => l0_end kk t 3 v least
  have e4 := fun (kk : Nat) (v least : Int) => l0_end kk t 4 v least
  simp only [Int.natCast_one] at s1
  generalize nb t 0 = c0 at *
  generalize nb t 1 = c1 at *
  generalize nb t 2 = c2 at *
  generalize nb t 3 = c3 at *
  unfold Lib.decodeN
  by_cases h1 : c0 < 128
  · rw [if_pos h1, if_pos h1]; rfl
  rw [if_neg h1, if_neg h1]
  by_cases h2 : c0 < 194 ∨ 245 ≤ c0
  · rw [if_pos h2]
    by_cases g1 : c0 / 32 = 6 ∧ (1 < t.size ∧ c1 / 64 = 2)
    · rw [if_pos g1, if_neg (by omega)]; rfl
    rw [if_neg g1, if_neg (by omega)]
    by_cases g3 : c0 / 8 = 30 ∧ (1 < t.size ∧ c1 / 64 = 2) ∧ (2 < t.size ∧ c2 / 64 = 2) ∧ (3 < t.size ∧ c3 / 64 = 2)
    · rw [if_pos g3, if_neg (by omega)]; rfl
    · rw [if_neg g3]; rfl
  rw [if_neg h2]
  by_cases h3 : c0 < 224
  · rw [if_pos h3, j3_eq]
    by_cases g2 : t.size < 2
    · rw [if_pos g2, if_neg (by omega), if_neg (by omega), if_neg (by omega)]; rfl
    rw [if_neg g2, s1 _ 2 _ _ (by omega) (by omega) (by omega) (by omega) (by omega)]
    by_cases g1 : c1 / 64 = 2
    · rw [if_pos g1, show ((1 + 1 : Nat) : Int) = ((2 : Nat) : Int) from rfl, e2, if_pos (by unfold okRune; simp; omega), if_pos (show c0 / 32 = 6 ∧ (1 < t.size ∧ c1 / 64 = 2) from ⟨by omega, by omega, g1⟩), if_pos (by omega)]
      simp
    · rw [if_neg g1, if_neg (by omega), if_neg (by omega), if_neg (by omega)]; rfl
  rw [if_neg h3]
  by_cases h4 : c0 < 240
  · rw [if_pos h4, j3_eq]
    by_cases g0 : t.size < 3
    · rw [if_pos g0, if_neg (by omega), if_neg (by omega), if_neg (by omega)]; rfl
    rw [if_neg g0, s1 _ 3 _ _ (by omega) (by omega) (by omega) (by omega) (by omega)]
    by_cases g1 : c1 / 64 = 2
    · rw [if_pos g1]
      have := s2 (k + 7) 3 (((c0 % 16 : Nat) : Int) * 64 + ((c1 % 64 : Nat) : Int)) 2048 (by omega) (by omega) (by omega) (by omega) (by omega)
      rw [show ((1 + 1 : Nat) : Int) = ((2 : Nat) : Int) from rfl, this]
      by_cases g2 : c2 / 64 = 2
      · rw [if_pos g2, show ((2 + 1 : Nat) : Int) = ((3 : Nat) : Int) from rfl, e3]
        by_cases g3 : c0 % 16 * 4096 + c1 % 64 * 64 + c2 % 64 ≥ 2048 ∧ (c0 % 16 * 4096 + c1 % 64 * 64 + c2 % 64 < 55296 ∨ (57344 ≤ c0 % 16 * 4096 + c1 % 64 * 64 + c2 % 64 ∧ c0 % 16 * 4096 + c1 % 64 * 64 + c2 % 64 ≤ 1114111))
        · rw [if_pos (by unfold okRune; simp; omega), if_neg (by omega), if_pos (show c0 / 16 = 14 ∧ (1 < t.size ∧ c1 / 64 = 2) ∧ (2 < t.size ∧ c2 / 64 = 2) from ⟨by omega, ⟨by omega, g1⟩, by omega, g2⟩), if_pos g3]
          simp; omega
        · rw [if_neg (by unfold okRune; simp; omega), if_neg (by omega), if_pos (show c0 / 16 = 14 ∧ (1 < t.size ∧ c1 / 64 = 2) ∧ (2 < t.size ∧ c2 / 64 = 2) from ⟨by omega, ⟨by omega, g1⟩, by omega, g2⟩), if_neg g3]; rfl
      · rw [if_neg g2, if_neg (by omega), if_neg (by omega), if_neg (by omega)]; rfl
    · rw [if_neg g1, if_neg (by omega), if_neg (by omega), if_neg (by omega)]; rfl
  rw [if_neg h4, j3_eq]
  by_cases g0 : t.size < 4
  · rw [if_pos g0, if_neg (by omega), if_neg (by omega), if_neg (by omega)]; rfl
  rw [if_neg g0, s1 _ 4 _ _ (by omega) (by omega) (by omega) (by omega) (by omega)]
  by_cases g1 : c1 / 64 = 2
  · rw [if_pos g1]
    have := s2 (k + 6) 4 (((c0 % 8 : Nat) : Int) * 64 + ((c1 % 64 : Nat) : Int)) 65536 (by omega) (by omega) (by omega) (by omega) (by omega)
    rw [show ((1 + 1 : Nat) : Int) = ((2 : Nat) : Int) from rfl, this]
    by_cases g2 : c2 / 64 = 2
    · rw [if_pos g2]
      have := s3 (k + 5) 4 ((((c0 % 8 : Nat) : Int) * 64 + ((c1 % 64 : Nat) : Int)) * 64 + ((c2 % 64 : Nat) : Int)) 65536 (by omega) (by omega) (by omega) (by omega) (by omega)
      rw [show ((2 + 1 : Nat) : Int) = ((3 : Nat) : Int) from rfl, this]
      by_cases g3 : c3 / 64 = 2
      · rw [if_pos g3, show ((3 + 1 : Nat) : Int) = ((4 : Nat) : Int) from rfl, e4]
        by_cases g4 : c0 % 8 * 262144 + c1 % 64 * 4096 + c2 % 64 * 64 + c3 % 64 ≥ 65536 ∧ (c0 % 8 * 262144 + c1 % 64 * 4096 + c2 % 64 * 64 + c3 % 64 < 55296 ∨ (57344 ≤ c0 % 8 * 262144 + c1 % 64 * 4096 + c2 % 64 * 64 + c3 % 64 ∧ c0 % 8 * 262144 + c1 % 64 * 4096 + c2 % 64 * 64 + c3 % 64 ≤ 1114111))
        · rw [if_pos (by unfold okRune; simp; omega), if_neg (by omega), if_neg (by omega), if_pos (show c0 / 8 = 30 ∧ (1 < t.size ∧ c1 / 64 = 2) ∧ (2 < t.size ∧ c2 / 64 = 2) ∧ (3 < t.size ∧ c3 / 64 = 2) from ⟨by omega, ⟨by omega, g1⟩, ⟨by omega, g2⟩, by omega, g3⟩), if_pos g4]
          simp; omega
        · rw [if_neg (by unfold okRune; simp; omega), if_neg (by omega), if_neg (by omega), if_pos (show c0 / 8 = 30 ∧ (1 < t.size ∧ c1 / 64 = 2) ∧ (2 < t.size ∧ c2 / 64 = 2) ∧ (3 < t.size ∧ c3 / 64 = 2) from ⟨by omega, ⟨by omega, g1⟩, ⟨by omega, g2⟩, by omega, g3⟩), if_neg g4]; rfl
      · rw [if_neg g3, if_neg (by omega), if_neg (by omega), if_neg (by omega)]; rfl
    · rw [if_neg g2, if_neg (by omega), if_neg (by omega), if_neg (by omega)]; rfl
  · rw [if_neg g1, if_neg (by omega), if_neg (by omega), if_neg (by omega)]; rfl

end Go.Proofs.YtkeepnmlphbffaaDoor.Runes

namespace Go.Proofs.YtkeepnmlphbffaaDoor.Runes
open Go.RowKit Go.Proofs.YtkeepnmlphbffaaDoor.PSp Go.Proofs.YtkeepnmlphbffaaDoorW.PrintWords Go.Proofs.YtkeepnmlphbffaaDoorW.PrintLast Go.Proofs.YtkeepnmlphbffaaDoorW.PrintMore Go.Proofs.YtkeepnmlphbffaaDoor.Math
set_option linter.unusedVariables false

theorem rune_at (k : Nat) (s : ByteArray) (i : Nat) (h : i < s.size) (hk : 12 ≤ k) : cambiumref02_Rune.f k (s.extract i s.size) = some ((rn s i : Int), (wd s i : Int)) := by
  rw [rune_eq k _ (by rw [extract_size]; omega) hk, dec_extract]; rfl

theorem runes_l0 (s : ByteArray) (hs : s.size ≤ 1000000) (d : Nat) : ∀ (k i : Nat) (a b : List Int), s.size - i ≤ d → i ≤ s.size → a.length ≤ i → b.length ≤ i → d + 13 < k →
    cambiumref02_Runes.l0 k s a b (i : Int) = some (a ++ (from_ s i).map (fun j => (rn s j : Int)), b ++ (from_ s i).map (fun (j : Nat) => (j : Int))) := by
  induction d with
  | zero =>
    intro k i a b h1 h2 ha hb hk
    obtain ⟨k, rfl⟩ : ∃ m, k = m + 1 := ⟨k - 1, by omega⟩
    rw [cambiumref02_Runes.l0, if_neg (by omega), from_ge (by omega)]; simp
  | succ d ih =>
    intro k i a b h1 h2 ha hb hk
    obtain ⟨k, rfl⟩ : ∃ m, k = m + 1 := ⟨k - 1, by omega⟩
    by_cases hi : i < s.size
    · have hw := dec_bounds s i hi
      rw [cambiumref02_Runes.l0, if_pos (by omega), if_pos (by omega), if_pos (by omega), Int.toNat_natCast, rune_at k s i hi (by omega), Option.bind_some, if_pos (by omega), if_pos (by omega), wrap_id (by omega) (by omega)]
      have := ih k (i + wd s i) (a ++ [(rn s i : Int)]) (b ++ [(i : Int)]) (by omega) (by omega) (by simp; omega) (by simp; omega) (by omega)
      rw [show ((i : Int) + (wd s i : Int)) = ((i + wd s i : Nat) : Int) by omega, this, from_lt hi]
      simp
    · rw [cambiumref02_Runes.l0, if_neg (by omega), from_ge hi]; simp
theorem runes_eq (k : Nat) (s : ByteArray) (hs : s.size ≤ 1000000) (hk : s.size + 13 < k) : cambiumref02_Runes.f k s = some (runesI s, posI s) := by
  unfold cambiumref02_Runes.f
  have := runes_l0 s hs s.size k 0 [] [] (by omega) (by omega) (by simp) (by simp) hk
  simpa [runesI, posI] using this

/-- Is a text UTF-8, from a place on? -/
def utfFrom (s : ByteArray) (i : Nat) : Bool := (from_ s i).all fun j => !(rn s j == 65533 && wd s j == 1)
theorem utf_l0 (s : ByteArray) (hs : s.size ≤ 1000000) (d : Nat) : ∀ (k i : Nat), s.size - i ≤ d → i ≤ s.size → d + 13 < k → cambiumref02_Utf.l0 k s (i : Int) = some (utfFrom s i) := by
  induction d with
  | zero =>
    intro k i h1 h2 hk
    obtain ⟨k, rfl⟩ : ∃ m, k = m + 1 := ⟨k - 1, by omega⟩
    rw [cambiumref02_Utf.l0, if_neg (by omega)]
    unfold utfFrom
    rw [from_ge (by omega)]; rfl
  | succ d ih =>
    intro k i h1 h2 hk
    obtain ⟨k, rfl⟩ : ∃ m, k = m + 1 := ⟨k - 1, by omega⟩
    by_cases hi : i < s.size
    · have hw := dec_bounds s i hi
      have hr := ih k (i + wd s i) (by omega) (by omega) (by omega)
      rw [show ((i + wd s i : Nat) : Int) = (i : Int) + (wd s i : Int) by omega] at hr
      rw [cambiumref02_Utf.l0, if_pos (by omega), if_pos (by omega), if_pos (by omega), Int.toNat_natCast, rune_at k s i hi (by omega), Option.bind_some, wrap_id (by omega) (by omega), hr]
      have hu : utfFrom s i = (!(rn s i == 65533 && wd s i == 1) && utfFrom s (i + wd s i)) := by
        unfold utfFrom; rw [from_lt hi]; rfl
      rw [hu]
      by_cases h3 : rn s i = 65533
      · by_cases h4 : wd s i = 1
        · rw [if_pos (by omega), if_pos (by omega), h3, h4]; rfl
        · rw [if_pos (by omega), if_neg (by omega)]; simp [h4]
      · rw [if_neg (by omega)]; simp [h3]
    · rw [cambiumref02_Utf.l0, if_neg (by omega)]
      unfold utfFrom
      rw [from_ge hi]; rfl
theorem utf_eq (k : Nat) (s : ByteArray) (hs : s.size ≤ 1000000) (hk : s.size + 13 < k) : cambiumref02_Utf.f k s = some (utfFrom s 0) := by
  unfold cambiumref02_Utf.f
  exact utf_l0 s hs s.size k 0 (by omega) (by omega) hk

def rightB (s : ByteArray) : Bool := (runesI s).all okI && utfFrom s 0
theorem right_l0 (s : ByteArray) (l : List Int) (hs : s.size ≤ 1000000) (hl : l.length ≤ 1000000) (d : Nat) : ∀ (k i : Nat), l.length - i ≤ d → i ≤ l.length → d + s.size + 15 < k →
    cambiumref02_Right.l0 k s l (i : Int) = some ((l.drop i).all okI && utfFrom s 0) := by
  induction d with
  | zero =>
    intro k i h1 h2 hk
    obtain ⟨k, rfl⟩ : ∃ m, k = m + 1 := ⟨k - 1, by omega⟩
    rw [cambiumref02_Right.l0, if_neg (by omega), utf_eq k s hs (by omega), List.drop_of_length_le (by omega)]; rfl
  | succ d ih =>
    intro k i h1 h2 hk
    obtain ⟨k, rfl⟩ : ∃ m, k = m + 1 := ⟨k - 1, by omega⟩
    by_cases hi : i < l.length
    · have hr := ih k (i + 1) (by omega) (by omega) (by omega)
      rw [show ((i + 1 : Nat) : Int) = (i : Int) + 1 by omega] at hr
      rw [cambiumref02_Right.l0, if_pos (by omega), if_pos (by omega), wrap_id (by omega) (by omega), hr, rd_drop hi, List.all_cons]
      generalize rd l (i : Int) = r
      unfold okI
      by_cases h3 : r < 32
      · rw [if_pos h3]; simp [h3]
      · rw [if_neg h3]
        by_cases h4 : r ≥ 127
        · by_cases h5 : r ≤ 159
          · rw [if_pos h4, if_pos h5]; simp [h4, h5]
          · rw [if_pos h4, if_neg h5]; simp [h3, h5]
        · rw [if_neg h4]; simp [h3, h4]
    · rw [cambiumref02_Right.l0, if_neg (by omega), utf_eq k s hs (by omega), List.drop_of_length_le (by omega)]; rfl
theorem runesI_len (s : ByteArray) : (runesI s).length ≤ s.size := by
  unfold runesI
  rw [List.length_map]
  have := from_len s s.size 0 (by omega)
  omega
theorem right_eq (k : Nat) (s : ByteArray) (hs : s.size ≤ 1000000) (hk : 2 * s.size + 16 < k) : cambiumref02_Right.f k s = some (rightB s) := by
  unfold cambiumref02_Right.f
  have hl := runesI_len s
  rw [runes_eq k s hs (by omega), Option.bind_some]
  have := right_l0 s (runesI s) hs (by omega) (runesI s).length k 0 (by omega) (by omega) (by omega)
  simpa [rightB] using this

end Go.Proofs.YtkeepnmlphbffaaDoor.Runes

namespace Go.Proofs.YtkeepnmlphbffaaDoor.Tells
open Go.RowKit Go.Proofs.YtkeepnmlphbffaaDoorW.PrintWords Go.Proofs.YtkeepnmlphbffaaDoorW.PrintLast Go.Proofs.YtkeepnmlphbffaaDoorW.PrintMore Go.Proofs.YtkeepnmlphbffaaDoor.Math
open Go.Proofs.YtkeepnmlphbffaaDoor.PSp Go.Proofs.YtkeepnmlphbffaaDoor.Runes Go.Proofs.YtkeepnmlphbffaaDoor.Text
set_option linter.unusedVariables false
set_option linter.unusedSimpArgs false
theorem drop_ext (s : ByteArray) (i : Nat) : (⟨(s.data.toList.drop i).toArray⟩ : ByteArray) = s.extract i s.size := by
  ext1
  rw [ByteArray.data_extract]
  apply Array.ext'
  rw [Array.toList_extract]
  simp [List.extract_eq_take_drop, List.take_of_length_le]
theorem decL_drop (s : ByteArray) (i : Nat) : Lib.decodeL (s.data.toList.drop i) = (rn s i, wd s i) := by
  unfold Lib.decodeL
  rw [drop_ext, dec_extract]
  rfl
theorem valid_utf (s : ByteArray) : ∀ (d i : Nat), s.size - i ≤ d → Lib.validD (s.data.toList.drop i) = utfFrom s i := by
  intro d
  induction d with
  | zero =>
    intro i h
    have h0 : s.data.toList.drop i = [] := List.drop_eq_nil_of_le (by have := data_size s; rw [Array.length_toList]; omega)
    rw [h0, Lib.validD_nil]
    unfold utfFrom
    rw [from_ge (by omega)]
    rfl
  | succ d ih =>
    intro i h
    by_cases hlt : i < s.size
    · have hne : s.data.toList.drop i ≠ [] := by
        intro h0
        have := congrArg List.length h0
        rw [List.length_drop, Array.length_toList, data_size] at this
        simp at this
        omega
      have hb := dec_bounds s i hlt
      rw [Lib.validD_step _ hne, decL_drop, List.drop_drop, ih (i + wd s i) (by omega)]
      unfold utfFrom
      rw [from_lt hlt, List.all_cons]
      by_cases hc : rn s i = 65533 ∧ wd s i = 1
      · rw [if_pos hc]; simp [hc.1, hc.2]
      · rw [if_neg hc]
        have hc' : (rn s i == 65533 && wd s i == 1) = false := by
          rw [Bool.and_eq_false_iff, beq_eq_false_iff_ne, beq_eq_false_iff_ne]
          omega
        rw [hc']; rfl
    · have h0 : s.data.toList.drop i = [] := List.drop_eq_nil_of_le (by have := data_size s; rw [Array.length_toList]; omega)
      rw [h0, Lib.validD_nil]
      unfold utfFrom
      rw [from_ge hlt]
      rfl
theorem right_same (s : ByteArray) : (Lib.validD s.data.toList && (runesI s).all okI) = rightB s := by
  have h := valid_utf s s.size 0 (by omega)
  rw [List.drop_zero] at h
  rw [h]
  unfold rightB
  exact Bool.and_comm _ _
end Go.Proofs.YtkeepnmlphbffaaDoor.Tells

namespace Go.Proofs.YtkeepnmlphbffaaDoor.Math
open Go.RowKit Go.Proofs.YtkeepnmlphbffaaDoorW.PrintWords
set_option linter.unusedVariables false

/-- Does one row come ahead of another one? -/
def lexLt : List Int → List Int → Bool
  | [], [] => false
  | [], _ :: _ => true
  | _ :: _, [] => false
  | a :: s, b :: t => if a = b then lexLt s t else decide (a < b)
theorem lexLt_nil_right (a : List Int) : lexLt a [] = false := by cases a <;> rfl
theorem lexLt_irrefl : ∀ a : List Int, lexLt a a = false
  | [] => rfl
  | x :: s => by simp only [lexLt, if_true]; exact lexLt_irrefl s
theorem lexLt_app : ∀ (p a b : List Int), lexLt (p ++ a) (p ++ b) = lexLt a b
  | [], _, _ => rfl
  | x :: p, a, b => by simp only [List.cons_append, lexLt, if_true]; exact lexLt_app p a b
theorem lexLt_tri : ∀ a b : List Int, lexLt a b = true ∨ a = b ∨ lexLt b a = true
  | [], [] => .inr (.inl rfl)
  | [], _ :: _ => .inl rfl
  | _ :: _, [] => .inr (.inr rfl)
  | a :: s, b :: t => by
    simp only [lexLt]
    by_cases h : a = b
    · subst h
      rw [if_pos rfl, if_pos rfl]
      rcases lexLt_tri s t with h | h | h
      · exact .inl h
      · exact .inr (.inl (by rw [h]))
      · exact .inr (.inr h)
    · rw [if_neg h, if_neg (fun e => h e.symm)]
      rcases Int.lt_or_lt_of_ne h with h1 | h1
      · exact .inl (decide_eq_true h1)
      · exact .inr (.inr (decide_eq_true h1))
theorem lexLt_asymm : ∀ a b : List Int, lexLt a b = true → lexLt b a = false
  | [], [] => fun h => by cases h
  | [], _ :: _ => fun _ => rfl
  | _ :: _, [] => fun h => by cases h
  | a :: s, b :: t => by
    simp only [lexLt]
    by_cases h : a = b
    · subst h
      rw [if_pos rfl, if_pos rfl]
      exact lexLt_asymm s t
    · rw [if_neg h, if_neg (fun e => h e.symm)]
      intro h1
      have := of_decide_eq_true h1
      exact decide_eq_false (by omega)
theorem lexLt_trans : ∀ a b c : List Int, lexLt a b = true → lexLt b c = true → lexLt a c = true
  | [], [], c => fun h _ => by cases h
  | [], _ :: _, [] => fun _ h => by cases h
  | [], _ :: _, _ :: _ => fun _ _ => rfl
  | _ :: _, [], c => fun h _ => by cases h
  | _ :: _, _ :: _, [] => fun _ h => by cases h
  | a :: s, b :: t, c :: u => by
    simp only [lexLt]
    by_cases h : a = b
    · subst h
      rw [if_pos rfl]
      by_cases h2 : a = c
      · subst h2; rw [if_pos rfl, if_pos rfl]; exact lexLt_trans s t u
      · rw [if_neg h2, if_neg h2]; exact fun _ h => h
    · rw [if_neg h]
      intro h1
      by_cases h2 : b = c
      · subst h2; rw [if_pos rfl, if_neg h]; exact fun _ => h1
      · rw [if_neg h2]
        intro h3
        have a1 := of_decide_eq_true h1
        have a2 := of_decide_eq_true h3
        rw [if_neg (by omega)]
        exact decide_eq_true (by omega)
/-- Rows that part at a place are told by what stands there. -/
theorem lexLt_diff (p a b : List Int) (x y : Int) (h : ¬ x = y) : lexLt (p ++ x :: a) (p ++ y :: b) = decide (x < y) := by
  rw [lexLt_app]; simp only [lexLt]; rw [if_neg h]
theorem lexLt_append_eq_len : ∀ (a b c d : List Int), a.length = b.length → lexLt (a ++ c) (b ++ d) = if a = b then lexLt c d else lexLt a b
  | [], [], c, d, _ => by simp
  | [], _ :: _, _, _, h => by simp at h
  | _ :: _, [], _, _, h => by simp at h
  | x :: a, y :: b, c, d, h => by
    simp only [List.cons_append, lexLt]
    by_cases e : x = y
    · subst e
      rw [if_pos rfl, if_pos rfl, lexLt_append_eq_len a b c d (by simpa using h)]
      by_cases e2 : a = b
      · subst e2; simp
      · simp [e2]
    · rw [if_neg e, if_neg e, if_neg (by simp [e])]

end Go.Proofs.YtkeepnmlphbffaaDoor.Math

namespace Go.Proofs.YtkeepnmlphbffaaDoor.NumFacts
open Go.RowKit Go.Proofs.YtkeepnmlphbffaaDoor.PSp Go.Proofs.YtkeepnmlphbffaaDoorW.PrintWords Go.Proofs.YtkeepnmlphbffaaDoorW.PrintLast Go.Proofs.YtkeepnmlphbffaaDoorW.PrintMore Go.Proofs.YtkeepnmlphbffaaDoor.Math
set_option linter.unusedVariables false

theorem less_l0 (a b : List Int) (ha : a.length ≤ 140737488355328) (d : Nat) : ∀ (k i : Nat), i ≤ a.length → i ≤ b.length → a.length - i = d → 2 * d + 1 < k →
    cambiumref01_Less.l0 k a b (i : Int) = some (lexLt (a.drop i) (b.drop i)) := by
  induction d with
  | zero =>
    intro k i h1 h2 hd hk
    obtain ⟨k, rfl⟩ : ∃ m, k = m + 1 + 1 := ⟨k - 2, by omega⟩
    have hi : i = a.length := by omega
    subst hi
    rw [cambiumref01_Less.l0, if_neg (by omega), cambiumref01_Less.j1, if_neg (by simp), List.drop_length]
    by_cases hb : a.length < b.length
    · rw [rd_drop hb]
      simp only [lexLt]
      rw [decide_eq_true (by omega)]
    · rw [List.drop_of_length_le (by omega)]
      simp only [lexLt]
      rw [decide_eq_false (by omega)]
  | succ d ih =>
    intro k i h1 h2 hd hk
    obtain ⟨k, rfl⟩ : ∃ m, k = m + 1 + 1 := ⟨k - 2, by omega⟩
    rw [cambiumref01_Less.l0, if_pos (by omega), cambiumref01_Less.j1]
    rw [rd_drop (l := a) (i := i) (by omega)]
    by_cases hb : i < b.length
    · rw [rd_drop hb, if_pos (by simpa using (by omega : (i : Int) < (b.length : Int))), if_pos (by omega), if_pos (by omega), if_pos (by omega)]
      simp only [lexLt]
      by_cases e : rd a (i : Int) = rd b (i : Int)
      · rw [if_pos e, if_pos e, wrap_id (by omega) (by omega)]
        exact ih k (i + 1) (by omega) (by omega) (by omega) (by omega)
      · rw [if_neg e, if_neg e]
    · rw [List.drop_of_length_le (l := b) (by omega), if_neg (by simpa using (by omega : (b.length : Int) ≤ (i : Int)))]
      simp only [lexLt]
      rw [decide_eq_false (by omega)]
theorem less_eq (k : Nat) (a b : List Int) (ha : a.length ≤ 140737488355328) (hk : 2 * a.length + 1 < k) : cambiumref01_Less.f k a b = some (lexLt a b) := by
  unfold cambiumref01_Less.f
  have := less_l0 a b ha a.length k 0 (by omega) (by omega) (by omega) hk
  simpa using this

end Go.Proofs.YtkeepnmlphbffaaDoor.NumFacts

namespace Go.Proofs.YtkeepnmlphbffaaDoor.Pure
open Go.RowKit Go.Proofs.YtkeepnmlphbffaaDoorW.PrintWords Go.Proofs.YtkeepnmlphbffaaDoorW.PrintLast Go.Proofs.YtkeepnmlphbffaaDoorW.PrintMore Go.Proofs.YtkeepnmlphbffaaDoor.Math
open Go.Proofs.YtkeepnmlphbffaaDoor.PSp Go.Proofs.YtkeepnmlphbffaaDoor.Runes Go.Proofs.YtkeepnmlphbffaaDoor.Text Go.Proofs.YtkeepnmlphbffaaDoor.Span
set_option linter.unusedVariables false
set_option linter.unusedSimpArgs false
theorem one_right (c : UInt8) (h : c.toNat < 127) (h2 : 32 ≤ c.toNat) : rightT (⟨#[c]⟩ : ByteArray) = true := by
  have hs : (⟨#[c]⟩ : ByteArray).size = 1 := rfl
  have hn : nb (⟨#[c]⟩ : ByteArray) 0 = c.toNat := rfl
  have hd : Utf8.decode (⟨#[c]⟩ : ByteArray) 0 = (c.toNat, 1) := by
    have e := Lib.decode_at (⟨#[c]⟩ : ByteArray) 0
    rw [e]
    unfold Lib.decodeN
    exact if_pos (show c.toNat < 128 by omega)
  have hr : runesI (⟨#[c]⟩ : ByteArray) = [(c.toNat : Int)] := by
    unfold runesI
    rw [from_lt (by rw [hs]; omega)]
    have hw : wd (⟨#[c]⟩ : ByteArray) 0 = 1 := by unfold wd; rw [hd]
    have hr : rn (⟨#[c]⟩ : ByteArray) 0 = c.toNat := by unfold rn; rw [hd]
    rw [hw, from_ge (by rw [hs]; omega), List.map_cons, hr]
    rfl
  have hv : Lib.validD [c] = true := by
    rw [Lib.validD_step _ (by simp), Lib.decodeL_ascii c [] (by omega)]
    rw [if_neg (by simp only; omega)]
    exact Lib.validD_nil
  unfold rightT
  rw [hr, show (⟨#[c]⟩ : ByteArray).data.toList = [c] from rfl, hv, Bool.true_and, List.all_cons, List.all_nil, Bool.and_true]
  unfold okI
  have h3 : ¬ (c.toNat : Int) < 32 := by omega
  have h4 : ¬ (c.toNat : Int) ≥ 127 := by omega
  rw [decide_eq_false h3, decide_eq_false h4]
  rfl
theorem name_eqS (s : ByteArray) : span_mayName.f s = some (nameB s) := by
  unfold span_mayName.f nameB
  split
  · rfl
  · split
    · rw [right_eq s (by omega)]
      rfl
    · rfl
theorem time_eqS (n : Int) : span_mayTime.f n = some (timeB n) := by
  unfold span_mayTime.f timeB
  split <;> rfl
theorem one_name (c : UInt8) (h : c.toNat < 127) (h2 : 32 ≤ c.toNat) : nameB (⟨#[c]⟩ : ByteArray) = true := by
  unfold nameB
  rw [if_neg (by rw [ByteArray.toList_eq]; exact List.cons_ne_nil _ _), if_pos (by show ((1 : Nat) : Int) ≤ 32; omega), one_right c h h2]
theorem awakeS (k : Nat) : cambiumlaw16_awake.f (k + 2) = some true := by
  have c1 : span_Compare.f 1 (⟨#[]⟩ : ByteArray) 7 false 1 (⟨#[]⟩ : ByteArray) 9 false = some (-1, true) := rfl
  have c2 : span_Compare.f 0 (⟨#[55]⟩ : ByteArray) 0 false 1 (⟨#[]⟩ : ByteArray) 9 false = some (0, false) := rfl
  have ht0 : timeB 0 = true := rfl
  have ht5 : timeB 5 = true := rfl
  have hat : span_mayAttrs.f (k + 1) ([] : List S43) = some true := by
    unfold span_mayAttrs.f
    rw [span_mayAttrs.l0, if_neg (by simp)]
    rfl
  have m1 : span_May.f (k + 2) 1 2 0 (⟨#[115]⟩ : ByteArray) (⟨#[111]⟩ : ByteArray) 0 5 0 ([] : List S43) ([] : List S59) ([] : List S62) = some true := by
    unfold span_May.f
    rw [if_neg (by omega), if_neg (by omega), if_neg (by omega), name_eqS, one_name 115 (by decide) (by decide), Option.bind_some, if_pos rfl, name_eqS, one_name 111 (by decide) (by decide), Option.bind_some,
      span_May.j0, time_eqS, ht0, Option.bind_some, if_pos rfl, time_eqS, ht5, Option.bind_some, if_pos rfl, if_pos (by omega), if_pos rfl, if_pos (by omega), hat, Option.bind_some, if_pos rfl]
    rfl
  have m2 : span_May.f (k + 2) 0 0 0 (⟨#[]⟩ : ByteArray) (⟨#[]⟩ : ByteArray) 0 0 0 ([] : List S43) ([] : List S59) ([] : List S62) = some false := by
    unfold span_May.f
    rw [if_pos rfl, span_May.j0, time_eqS, ht0, Option.bind_some, if_pos rfl, Option.bind_some, if_pos rfl, if_pos (by omega), if_neg Bool.false_ne_true]
  unfold cambiumlaw16_awake.f
  rw [c1, Option.bind_some, c2, Option.bind_some, m1, Option.bind_some, if_pos rfl, m2, Option.bind_some, if_neg Bool.false_ne_true, if_pos rfl, if_pos rfl, if_neg Bool.false_ne_true]
  have hw : wrap64 (0 + 5) = 5 := by unfold wrap64; omega
  unfold span_End.f
  rw [Option.bind_some, hw]
  rfl
theorem wsuc (i : Nat) (h : i ≤ 200000000000000) : wrap64 ((i : Int) + 1) = ((i + 1 : Nat) : Int) := by unfold wrap64; omega
theorem small_l1 (a b c : Int) (s o : ByteArray) (d e f : Int) (A : List S43) (E : List S59) (L : List S62) (hE : E.length ≤ 140737488351232) (n : Nat) :
    ∀ (k i : Nat) (x : Int), E.length - i ≤ n → n < k → ∃ r, cambiumref16_Small.l1 k x (i : Int) a b c s o d e f A E L = some r := by
  induction n with
  | zero =>
    intro k i x h hk
    obtain ⟨k, rfl⟩ : ∃ j, k = j + 1 := ⟨k - 1, by omega⟩
    exact ⟨_, by rw [cambiumref16_Small.l1, if_neg (by omega)]⟩
  | succ n ih =>
    intro k i x h hk
    obtain ⟨k, rfl⟩ : ∃ j, k = j + 1 := ⟨k - 1, by omega⟩
    by_cases hlt : i < E.length
    · rw [cambiumref16_Small.l1, if_pos (by omega)]
      by_cases hx : x ≤ 6000
      · rw [if_pos hx, if_pos (by omega), wsuc i (by omega)]
        exact ih k (i + 1) _ (by omega) (by omega)
      · exact ⟨_, by rw [if_neg hx]⟩
    · exact ⟨_, by rw [cambiumref16_Small.l1, if_neg (by omega)]⟩
theorem small_l0 (a b c : Int) (s o : ByteArray) (d e f : Int) (A : List S43) (E : List S59) (L : List S62) (hA : A.length ≤ 140737488351232) (hE : E.length ≤ 140737488351232) (n : Nat) :
    ∀ (k i : Nat) (x : Int), A.length - i ≤ n → n + E.length + 2 < k → ∃ r, cambiumref16_Small.l0 k x (i : Int) a b c s o d e f A E L = some r := by
  have hend : ∀ (k : Nat) (x : Int), E.length + 1 < k → ∃ r, cambiumref16_Small.j1 k x a b c s o d e f A E L = some r := by
    intro k x hk
    obtain ⟨k, rfl⟩ : ∃ j, k = j + 1 := ⟨k - 1, by omega⟩
    rw [cambiumref16_Small.j1]
    exact small_l1 a b c s o d e f A E L hE E.length k 0 x (by omega) (by omega)
  induction n with
  | zero =>
    intro k i x h hk
    obtain ⟨k, rfl⟩ : ∃ j, k = j + 1 := ⟨k - 1, by omega⟩
    rw [cambiumref16_Small.l0, if_neg (by omega)]
    exact hend k x (by omega)
  | succ n ih =>
    intro k i x h hk
    obtain ⟨k, rfl⟩ : ∃ j, k = j + 1 := ⟨k - 1, by omega⟩
    by_cases hlt : i < A.length
    · rw [cambiumref16_Small.l0, if_pos (by omega)]
      by_cases hx : x ≤ 6000
      · rw [if_pos hx, if_pos (by omega), wsuc i (by omega)]
        exact ih k (i + 1) _ (by omega) (by omega)
      · rw [if_neg hx]
        exact hend k x (by omega)
    · rw [cambiumref16_Small.l0, if_neg (by omega)]
      exact hend k x (by omega)
theorem small_some (k : Nat) (a b c : Int) (s o : ByteArray) (d e f : Int) (A : List S43) (E : List S59) (L : List S62) (hA : A.length ≤ 140737488351232) (hE : E.length ≤ 140737488351232) (hk : A.length + E.length + 3 < k) :
    ∃ r, cambiumref16_Small.f k a b c s o d e f A E L = some r := by
  unfold cambiumref16_Small.f
  exact small_l0 a b c s o d e f A E L hA hE A.length k 0 _ (by omega) (by omega)
end Go.Proofs.YtkeepnmlphbffaaDoor.Pure

namespace Go.Proofs.YtkeepnmlphbffaaDoor.Pure
open Go.RowKit Go.Proofs.YtkeepnmlphbffaaDoorW.PrintWords Go.Proofs.YtkeepnmlphbffaaDoorW.PrintLast Go.Proofs.YtkeepnmlphbffaaDoorW.PrintMore Go.Proofs.YtkeepnmlphbffaaDoor.Math
open Go.Proofs.YtkeepnmlphbffaaDoor.PSp Go.Proofs.YtkeepnmlphbffaaDoor.Runes Go.Proofs.YtkeepnmlphbffaaDoor.Text Go.Proofs.YtkeepnmlphbffaaDoor.Span Go.Proofs.YtkeepnmlphbffaaDoor.NumFacts
set_option linter.unusedVariables false
set_option linter.unusedSimpArgs false
def nums (l : List UInt8) : List Int := l.map fun b => (b.toNat : Int)
theorem cmpB_lex : ∀ (x y : List UInt8), Lib.compareBytes x y = if lexLt (nums x) (nums y) = true then -1 else if lexLt (nums y) (nums x) = true then 1 else 0 := by
  intro x
  induction x with
  | nil =>
    intro y
    cases y with
    | nil => rfl
    | cons b t => rfl
  | cons a s ih =>
    intro y
    cases y with
    | nil => rfl
    | cons b t =>
      have ha : nums (a :: s) = (a.toNat : Int) :: nums s := rfl
      have hb : nums (b :: t) = (b.toNat : Int) :: nums t := rfl
      have l1 : lexLt (nums (a :: s)) (nums (b :: t)) = if (a.toNat : Int) = (b.toNat : Int) then lexLt (nums s) (nums t) else decide ((a.toNat : Int) < (b.toNat : Int)) := rfl
      have l2 : lexLt (nums (b :: t)) (nums (a :: s)) = if (b.toNat : Int) = (a.toNat : Int) then lexLt (nums t) (nums s) else decide ((b.toNat : Int) < (a.toNat : Int)) := rfl
      have hlt : ∀ p q : UInt8, p < q ↔ (p.toNat : Int) < (q.toNat : Int) := fun p q => by rw [UInt8.lt_iff_toNat_lt]; omega
      rw [Lib.compareBytes]
      by_cases h1 : a < b
      · have h := (hlt a b).mp h1
        rw [if_neg (by omega), decide_eq_true h] at l1
        rw [if_pos h1, l1, if_pos rfl]
      · by_cases h2 : b < a
        · have h := (hlt b a).mp h2
          rw [if_neg (by omega), decide_eq_false (by omega)] at l1
          rw [if_neg (by omega), decide_eq_true h] at l2
          rw [if_neg h1, if_pos h2, l1, l2, if_neg Bool.false_ne_true, if_pos rfl]
        · have h3 : ¬ (a.toNat : Int) < (b.toNat : Int) := fun h => h1 ((hlt a b).mpr h)
          have h4 : ¬ (b.toNat : Int) < (a.toNat : Int) := fun h => h2 ((hlt b a).mpr h)
          have e : (a.toNat : Int) = (b.toNat : Int) := by omega
          rw [if_pos e] at l1
          rw [if_pos e.symm] at l2
          rw [if_neg h1, if_neg h2, l1, l2, ih t]
theorem less_txt (k : Nat) (s t : ByteArray) (hs : s.size ≤ 1000) (hk : 2100 < k) : cambiumref01_Less.f k (bytesOf s) (bytesOf t) = some (lexLt (nums s.data.toList) (nums t.data.toList)) := by
  rw [less_eq k _ _ (by rw [bytesOf_length]; omega) (by rw [bytesOf_length]; omega)]
  rfl
theorem right_ref (k : Nat) (s : ByteArray) (h : (s.size : Int) ≤ 200) (hk : 500 < k) : cambiumref02_Right.f k s = some (rightT s) := by
  rw [Runes.right_eq k s (by omega) (by omega)]
  unfold rightT
  rw [Tells.right_same]
theorem refval (k : Nat) (k0 : Int) (s : ByteArray) (n : Int) (b : Bool) (hk : 500 < k) : cambiumref16_Value.f k k0 s n b = some (mvB k0 s n b) := by
  have hr : (if (s.size : Int) ≤ 200 then ((cambiumref02_Right.f k s).bind fun t => some t) else some false) = some (decide ((s.size : Int) ≤ 200) && rightT s) := by
    by_cases h : (s.size : Int) ≤ 200
    · rw [if_pos h, right_ref k s h hk, Option.bind_some, decide_eq_true h, Bool.true_and]
    · rw [if_neg h, decide_eq_false h, Bool.false_and]
  unfold cambiumref16_Value.f mvB bareB
  by_cases h1 : k0 < 0
  · rw [if_pos h1, if_neg (by omega), if_neg (by omega), if_neg (by omega), Bool.false_and]
  rw [if_neg h1]
  by_cases h2 : k0 > 2
  · rw [if_pos h2, if_neg (by omega), if_neg (by omega), if_neg (by omega), Bool.false_and]
  rw [if_neg h2]
  by_cases z0 : k0 = 0
  · rw [if_pos z0, if_neg (show ¬ k0 = 1 by omega), if_neg (show ¬ k0 = 2 by omega), if_pos z0, hr]
    by_cases hn : n = 0
    · rw [if_pos hn, beq_iff_eq.mpr hn]
      cases b
      · rw [if_neg Bool.false_ne_true]; rfl
      · rw [if_pos rfl]; rfl
    · rw [if_neg hn, beq_eq_false_iff_ne.mpr hn]; rfl
  · rw [if_neg z0, if_neg z0]
    by_cases hs : s.toList = ([] : List UInt8)
    · rw [if_pos hs, beq_iff_eq.mpr hs, hr]
      by_cases z1 : k0 = 1
      · rw [if_pos z1, if_neg (show ¬ k0 = 2 by omega), if_pos z1]
        cases b
        · rw [if_neg Bool.false_ne_true]; rfl
        · rw [if_pos rfl]; rfl
      · have z2 : k0 = 2 := by omega
        rw [if_neg z1, if_pos z2, if_neg z1, if_pos z2]
        by_cases hn : n = 0
        · rw [if_pos hn, beq_iff_eq.mpr hn]; rfl
        · rw [if_neg hn, beq_eq_false_iff_ne.mpr hn]; rfl
    · rw [if_neg hs, beq_eq_false_iff_ne.mpr hs]
      by_cases z1 : k0 = 1
      · rw [if_pos z1]; rfl
      · rw [if_neg z1, if_pos (by omega)]; rfl
end Go.Proofs.YtkeepnmlphbffaaDoor.Pure

namespace Go.Proofs.YtkeepnmlphbffaaDoor.Pure
open Go.RowKit Go.Proofs.YtkeepnmlphbffaaDoorW.PrintWords Go.Proofs.YtkeepnmlphbffaaDoorW.PrintLast Go.Proofs.YtkeepnmlphbffaaDoorW.PrintMore Go.Proofs.YtkeepnmlphbffaaDoor.Math
open Go.Proofs.YtkeepnmlphbffaaDoor.PSp Go.Proofs.YtkeepnmlphbffaaDoor.Runes Go.Proofs.YtkeepnmlphbffaaDoor.Text Go.Proofs.YtkeepnmlphbffaaDoor.Span Go.Proofs.YtkeepnmlphbffaaDoor.NumFacts
set_option linter.unusedVariables false
set_option linter.unusedSimpArgs false
theorem bytesLess_lex : ∀ (x y : List UInt8), Op.bytesLess x y = lexLt (nums x) (nums y) := by
  intro x
  induction x with
  | nil => intro y; cases y <;> rfl
  | cons a s ih =>
    intro y
    cases y with
    | nil => rfl
    | cons b t =>
      have l1 : lexLt (nums (a :: s)) (nums (b :: t)) = if (a.toNat : Int) = (b.toNat : Int) then lexLt (nums s) (nums t) else decide ((a.toNat : Int) < (b.toNat : Int)) := rfl
      have hlt : a < b ↔ (a.toNat : Int) < (b.toNat : Int) := by rw [UInt8.lt_iff_toNat_lt]; omega
      rw [Op.bytesLess, l1, ih t]
      by_cases e : (a.toNat : Int) = (b.toNat : Int)
      · have hab : a = b := UInt8.toNat_inj.mp (by omega)
        subst hab
        rw [if_pos rfl, beq_self_eq_true, decide_eq_false (by rw [hlt]; omega), Bool.false_or, Bool.true_and]
      · have hab : (a == b) = false := by rw [beq_eq_false_iff_ne]; intro h; exact e (by rw [h])
        rw [if_neg e, hab, Bool.false_and, Bool.or_false]
        exact decide_eq_decide.mpr hlt
def at_ (A : List S43) (i : Nat) : S43 := A.getD i z43
def mvA (x : S43) : Bool := mvB x.f1.f0 x.f1.f1 x.f1.f2 x.f1.f3
def ordA (A : List S43) (i : Nat) : Bool := if i = 0 then true else lexLt (nums (at_ A (i - 1)).f0.data.toList) (nums (at_ A i).f0.data.toList)
/-- So many attributes, from one on, may be. -/
def attrsOk (A : List S43) : Nat → Nat → Bool
  | 0, _ => true
  | n + 1, i => if nameB (at_ A i).f0 = true then (if mvA (at_ A i) = true then (if ordA A i = true then attrsOk A n (i + 1) else false) else false) else false
theorem wpre (i : Nat) (h : i + 1 ≤ 200000000000000) : wrap64 (((i + 1 : Nat) : Int) - 1) = (i : Int) := by unfold wrap64; omega
theorem name_size (s : ByteArray) (h : nameB s = true) : s.size ≤ 32 := by
  unfold nameB at h
  split at h
  · cases h
  · split at h
    · omega
    · cases h
theorem attrs_l0 (A : List S43) (hA : A.length ≤ 140737488351232) (n : Nat) : ∀ (k i : Nat), A.length - i = n → i ≤ A.length → n < k →
    span_mayAttrs.l0 k A A (A.length : Int) (i : Int) = some (attrsOk A n i && decide ((A.length : Int) ≤ 16)) := by
  induction n with
  | zero =>
    intro k i h hi hk
    obtain ⟨k, rfl⟩ : ∃ j, k = j + 1 := ⟨k - 1, by omega⟩
    rw [span_mayAttrs.l0, if_neg (by omega), attrsOk, Bool.true_and]
  | succ n ih =>
    intro k i h hi hk
    obtain ⟨k, rfl⟩ : ∃ j, k = j + 1 := ⟨k - 1, by omega⟩
    have hx : rd_T43 A (i : Int) = at_ A i := rfl
    rw [span_mayAttrs.l0, if_pos (by omega), if_pos (by omega), if_pos (by omega), hx, name_eqS, Option.bind_some, attrsOk]
    cases hn : nameB (at_ A i).f0 with
    | false => rw [if_neg Bool.false_ne_true, if_neg Bool.false_ne_true, Bool.false_and]
    | true =>
      have hm : span_MayValue.f (at_ A i).f1.f0 (at_ A i).f1.f1 (at_ A i).f1.f2 (at_ A i).f1.f3 = some (mvA (at_ A i)) := rfl
      rw [if_pos rfl, if_pos rfl, hm, Option.bind_some]
      cases hv : mvA (at_ A i) with
      | false => rw [if_neg Bool.false_ne_true, if_neg Bool.false_ne_true, Bool.false_and]
      | true =>
        rw [if_pos rfl, if_pos rfl, wsuc i (by omega)]
        cases i with
        | zero =>
          have ho : ordA A 0 = true := rfl
          rw [if_neg (by omega), if_pos ho]
          exact ih k 1 (by omega) (by omega) (by omega)
        | succ j =>
          have hy : rd_T43 A (j : Int) = at_ A j := rfl
          have ho : ordA A (j + 1) = lexLt (nums (at_ A j).f0.data.toList) (nums (at_ A (j + 1)).f0.data.toList) := rfl
          rw [if_pos (by omega), wpre j (by omega), if_pos (by omega), if_pos (by omega), hy, bytesLess_lex, ByteArray.toList_eq, ByteArray.toList_eq, ho]
          cases hl : lexLt (nums (at_ A j).f0.data.toList) (nums (at_ A (j + 1)).f0.data.toList) with
          | false => rw [if_neg Bool.false_ne_true, if_neg Bool.false_ne_true, Bool.false_and]
          | true =>
            rw [if_pos rfl, if_pos rfl]
            exact ih k (j + 1 + 1) (by omega) (by omega) (by omega)
theorem attrs_eq (k : Nat) (A : List S43) (hA : A.length ≤ 140737488351232) (hk : A.length < k) : span_mayAttrs.f k A = some (attrsOk A A.length 0 && decide ((A.length : Int) ≤ 16)) :=
  attrs_l0 A hA A.length k 0 (by omega) (by omega) hk
def HeadP (a b c : Int) (s o : ByteArray) (d e f : Int) : Prop := a ≠ 0 ∧ b ≠ 0 ∧ c ≠ b ∧ nameB s = true ∧ nameB o = true ∧ timeB d = true ∧ timeB e = true ∧ 0 ≤ f ∧ f ≤ 2
def BodyP (A : List S43) (E : List S59) (L : List S62) : Prop :=
  attrsOk A A.length 0 = true ∧ (A.length : Int) ≤ 16 ∧ (E.length : Int) ≤ 16 ∧ (L.length : Int) ≤ 16 ∧ E.any evBad = false ∧ L.any liBad = false
theorem no_of {P : Prop} (h : ¬ P) : ∃ r, (some false : Option Bool) = some r ∧ (r = true ↔ P) := ⟨false, rfl, ⟨fun h => (by cases h), fun p => absurd p h⟩⟩
theorem span_may (k : Nat) (a b c : Int) (s o : ByteArray) (d e f : Int) (A : List S43) (E : List S59) (L : List S62) (hA : A.length ≤ 140737488351232) (hk : A.length + 1 < k) :
    ∃ r, span_May.f k a b c s o d e f A E L = some r ∧ (r = true ↔ HeadP a b c s o d e f ∧ BodyP A E L) := by
  obtain ⟨k, rfl⟩ : ∃ j, k = j + 1 := ⟨k - 1, by omega⟩
  have hf : span_May.j0 (k + 1) false a b c s o d e f A E L = some false := by
    rw [span_May.j0, time_eqS, Option.bind_some, time_eqS]
    cases timeB d
    · rw [if_neg Bool.false_ne_true, if_neg Bool.false_ne_true]
    · rw [if_pos rfl, Option.bind_some]
      cases timeB e
      · rw [if_neg Bool.false_ne_true, if_neg Bool.false_ne_true]
      · rw [if_pos rfl]
        by_cases h : f ≥ 0
        · rw [if_pos h, if_neg Bool.false_ne_true]
        · rw [if_neg h, if_neg Bool.false_ne_true]
  unfold span_May.f
  by_cases h0 : a = 0
  · rw [if_pos h0, hf]; exact no_of (fun h => h.1.1 h0)
  rw [if_neg h0]
  by_cases h1 : b = 0
  · rw [if_pos h1, hf]; exact no_of (fun h => h.1.2.1 h1)
  rw [if_neg h1]
  by_cases h2 : c = b
  · rw [if_pos h2, hf]; exact no_of (fun h => h.1.2.2.1 h2)
  rw [if_neg h2, name_eqS, Option.bind_some]
  cases h3 : nameB s with
  | false => rw [if_neg Bool.false_ne_true, hf]; exact no_of (fun h => by have := h.1.2.2.2.1; rw [h3] at this; cases this)
  | true =>
  rw [if_pos rfl, name_eqS, Option.bind_some]
  cases h4 : nameB o with
  | false => rw [hf]; exact no_of (fun h => by have := h.1.2.2.2.2.1; rw [h4] at this; cases this)
  | true =>
  rw [span_May.j0, time_eqS, Option.bind_some, time_eqS]
  cases h5 : timeB d with
  | false => rw [if_neg Bool.false_ne_true, if_pos rfl]; exact no_of (fun h => by have := h.1.2.2.2.2.2.1; rw [h5] at this; cases this)
  | true =>
  rw [if_pos rfl, Option.bind_some]
  cases h6 : timeB e with
  | false => rw [if_neg Bool.false_ne_true, if_pos rfl]; exact no_of (fun h => by have := h.1.2.2.2.2.2.2.1; rw [h6] at this; cases this)
  | true =>
  rw [if_pos rfl]
  by_cases h7 : f ≥ 0
  rotate_left
  · rw [if_neg h7, if_pos rfl]; exact no_of (fun h => h7 h.1.2.2.2.2.2.2.2.1)
  rw [if_pos h7, if_pos rfl]
  by_cases h8 : f ≤ 2
  rotate_left
  · rw [if_neg h8]; exact no_of (fun h => h8 h.1.2.2.2.2.2.2.2.2)
  have hh : HeadP a b c s o d e f := ⟨h0, h1, h2, h3, h4, h5, h6, h7, h8⟩
  rw [if_pos h8, attrs_eq k A hA (by omega), Option.bind_some]
  cases h9 : (attrsOk A A.length 0 && decide ((A.length : Int) ≤ 16)) with
  | false =>
    rw [if_neg Bool.false_ne_true]
    exact no_of (fun h => by rw [h.2.1, decide_eq_true h.2.2.1] at h9; cases h9)
  | true =>
  rw [Bool.and_eq_true, decide_eq_true_eq] at h9
  have hE : span_mayEvents.f E = some (decide ((E.length : Int) ≤ 16) && !(E.any evBad)) := rfl
  have hL : span_mayLinks.f L = some (decide ((L.length : Int) ≤ 16) && !(L.any liBad)) := rfl
  rw [if_pos rfl, hE, Option.bind_some]
  cases h10 : (decide ((E.length : Int) ≤ 16) && !(E.any evBad)) with
  | false =>
    rw [if_neg Bool.false_ne_true]
    exact no_of (fun h => by rw [h.2.2.2.2.2.1, decide_eq_true h.2.2.2.1] at h10; cases h10)
  | true =>
  rw [Bool.and_eq_true, decide_eq_true_eq, Bool.not_eq_true'] at h10
  rw [if_pos rfl, hL, Option.bind_some]
  refine ⟨_, rfl, ?_⟩
  rw [Bool.and_eq_true, decide_eq_true_eq, Bool.not_eq_true']
  exact ⟨fun h => ⟨hh, h9.1, h9.2, h10.1, h.1, h10.2, h.2⟩, fun h => ⟨h.2.2.2.2.1, h.2.2.2.2.2.2⟩⟩
theorem refname (k : Nat) (s : ByteArray) (hk : 500 < k) : cambiumref16_Name.f k s = some (nameB s) := by
  unfold cambiumref16_Name.f nameB
  by_cases h : s.toList = ([] : List UInt8)
  · have hs : s.size = 0 := by rw [ByteArray.toList_eq] at h; have := congrArg List.length h; rw [Array.length_toList] at this; exact this
    rw [if_pos h, if_neg (by omega)]
  · have hs : (s.size : Int) ≥ 1 := by
      apply Classical.byContradiction
      intro hn
      apply h
      rw [ByteArray.toList_eq]
      apply List.eq_nil_of_length_eq_zero
      rw [Array.length_toList]
      show s.size = 0
      omega
    rw [if_neg h, if_pos hs]
    by_cases h2 : (s.size : Int) ≤ 32
    · rw [if_pos h2, if_pos h2, right_ref k s (by omega) hk, Option.bind_some]
    · rw [if_neg h2, if_neg h2]
theorem reftime (n : Int) : cambiumref16_time.f n = some (timeB n) := by
  unfold cambiumref16_time.f timeB
  split <;> rfl
theorem may_l2 (a b c : Int) (s o : ByteArray) (d e f : Int) (A : List S43) (E : List S59) (L : List S62) (hL : L.length ≤ 140737488351232) (n : Nat) : ∀ (k i : Nat), L.length - i ≤ n → n < k → cambiumref16_May.l2 k (i : Int) a b c s o d e f A E L = some (!((L.drop i).any liBad)) := by
  have hend : ∀ (k i : Nat), ¬ i < L.length → cambiumref16_May.l2 (k + 1) (i : Int) a b c s o d e f A E L = some (!((L.drop i).any liBad)) := by
    intro k i h
    rw [cambiumref16_May.l2, if_neg (by omega), List.drop_eq_nil_of_le (by omega)]
    rfl
  induction n with
  | zero =>
    intro k i h hk
    obtain ⟨k, rfl⟩ : ∃ j, k = j + 1 := ⟨k - 1, by omega⟩
    exact hend k i (by omega)
  | succ n ih =>
    intro k i h hk
    obtain ⟨k, rfl⟩ : ∃ j, k = j + 1 := ⟨k - 1, by omega⟩
    by_cases hlt : i < L.length
    · have hx : rd_T62 L (i : Int) = L.getD i z62 := rfl
      rw [cambiumref16_May.l2, if_pos (by omega), if_pos (by omega), hx, drop_z (z := z62) hlt, List.any_cons, wsuc i (by omega)]
      unfold liBad at ih ⊢
      by_cases h0 : (L.getD i z62).f0 = 0
      · rw [if_pos h0, beq_iff_eq.mpr h0]; rfl
      · rw [if_neg h0, beq_eq_false_iff_ne.mpr h0]
        by_cases h1 : (L.getD i z62).f1 = 0
        · rw [if_pos h1, beq_iff_eq.mpr h1]; rfl
        · rw [if_neg h1, beq_eq_false_iff_ne.mpr h1, ih k (i + 1) (by omega) (by omega)]; rfl
    · exact hend k i hlt
theorem may_l1 (a b c : Int) (s o : ByteArray) (d e f : Int) (A : List S43) (E : List S59) (L : List S62) (hE : E.length ≤ 140737488351232) (hL : L.length ≤ 140737488351232) (n : Nat) : ∀ (k i : Nat), E.length - i ≤ n → n + L.length + 502 < k → cambiumref16_May.l1 k (i : Int) a b c s o d e f A E L = some (!((E.drop i).any evBad) && !(L.any liBad)) := by
  have hend : ∀ (k i : Nat), ¬ i < E.length → L.length < k → cambiumref16_May.l1 (k + 1) (i : Int) a b c s o d e f A E L = some (!((E.drop i).any evBad) && !(L.any liBad)) := by
    intro k i h hk
    have h2 := may_l2 a b c s o d e f A E L hL L.length k 0 (by omega) hk
    rw [cambiumref16_May.l1, if_neg (by omega), List.drop_eq_nil_of_le (by omega), (show cambiumref16_May.l2 k 0 a b c s o d e f A E L = _ from h2)]
    rfl
  induction n with
  | zero =>
    intro k i h hk
    obtain ⟨k, rfl⟩ : ∃ j, k = j + 1 := ⟨k - 1, by omega⟩
    exact hend k i (by omega) (by omega)
  | succ n ih =>
    intro k i h hk
    obtain ⟨k, rfl⟩ : ∃ j, k = j + 1 := ⟨k - 1, by omega⟩
    by_cases hlt : i < E.length
    · have hx : rd_T59 E (i : Int) = E.getD i z59 := rfl
      rw [cambiumref16_May.l1, if_pos (by omega), if_pos (by omega), hx, reftime, Option.bind_some, drop_z (z := z59) hlt, List.any_cons, wsuc i (by omega)]
      have hb : evBad (E.getD i z59) = (!(timeB (E.getD i z59).f0) || !(nameB (E.getD i z59).f1)) := rfl
      rw [hb]
      cases ht : timeB (E.getD i z59).f0 with
      | false => rw [if_neg Bool.false_ne_true]; rfl
      | true =>
        rw [if_pos rfl, refname k _ (by omega), Option.bind_some]
        cases hn : nameB (E.getD i z59).f1 with
        | false => rw [if_neg Bool.false_ne_true]; rfl
        | true => rw [if_pos rfl, ih k (i + 1) (by omega) (by omega)]; rfl
    · exact hend k i hlt (by omega)
theorem may_l0 (a b c : Int) (s o : ByteArray) (d e f : Int) (A : List S43) (E : List S59) (L : List S62) (hA : A.length ≤ 16) (hE : E.length ≤ 140737488351232) (hL : L.length ≤ 140737488351232) (n : Nat) : ∀ (k i : Nat), A.length - i = n → i ≤ A.length → n + E.length + L.length + 2203 < k → (∀ j, i = j + 1 → (at_ A j).f0.size ≤ 1000) →
    cambiumref16_May.l0 k (i : Int) a b c s o d e f A E L = some (attrsOk A n i && (!(E.any evBad) && !(L.any liBad))) := by
  induction n with
  | zero =>
    intro k i h hi hk hp
    obtain ⟨k, rfl⟩ : ∃ j, k = j + 1 := ⟨k - 1, by omega⟩
    have h2 := may_l1 a b c s o d e f A E L hE hL E.length k 0 (by omega) (by omega)
    rw [cambiumref16_May.l0, if_neg (by omega), attrsOk, Bool.true_and, (show cambiumref16_May.l1 k 0 a b c s o d e f A E L = _ from h2)]
    rfl
  | succ n ih =>
    intro k i h hi hk hp
    obtain ⟨k, rfl⟩ : ∃ j, k = j + 1 := ⟨k - 1, by omega⟩
    have hx : rd_T43 A (i : Int) = at_ A i := rfl
    rw [cambiumref16_May.l0, if_pos (by omega), if_pos (by omega), hx, refname k _ (by omega), Option.bind_some, attrsOk]
    cases hn : nameB (at_ A i).f0 with
    | false => rw [if_neg Bool.false_ne_true, if_neg Bool.false_ne_true, Bool.false_and]
    | true =>
      have hm := refval k (at_ A i).f1.f0 (at_ A i).f1.f1 (at_ A i).f1.f2 (at_ A i).f1.f3 (by omega)
      have hsz := name_size _ hn
      rw [if_pos rfl, if_pos rfl, hm, Option.bind_some]
      have hmv : mvB (at_ A i).f1.f0 (at_ A i).f1.f1 (at_ A i).f1.f2 (at_ A i).f1.f3 = mvA (at_ A i) := rfl
      rw [hmv]
      cases hv : mvA (at_ A i) with
      | false => rw [if_neg Bool.false_ne_true, if_neg Bool.false_ne_true, Bool.false_and]
      | true =>
        rw [if_pos rfl, if_pos rfl, wsuc i (by omega)]
        cases i with
        | zero =>
          have ho : ordA A 0 = true := rfl
          rw [if_neg (by omega), if_pos ho]
          exact ih k 1 (by omega) (by omega) (by omega) (fun j hj => by have : j = 0 := by omega
                                                                        subst this; omega)
        | succ j =>
          have hy : rd_T43 A (j : Int) = at_ A j := rfl
          have ho : ordA A (j + 1) = lexLt (nums (at_ A j).f0.data.toList) (nums (at_ A (j + 1)).f0.data.toList) := rfl
          have hps : (at_ A j).f0.size ≤ 1000 := hp j rfl
          rw [if_pos (by omega), wpre j (by omega), if_pos (by omega), if_pos (by omega), hy, if_pos (by omega), if_pos (by omega), less_txt k _ _ hps (by omega), Option.bind_some, ho]
          cases hl : lexLt (nums (at_ A j).f0.data.toList) (nums (at_ A (j + 1)).f0.data.toList) with
          | false => rw [if_neg Bool.false_ne_true, if_neg Bool.false_ne_true, Bool.false_and]
          | true =>
            rw [if_pos rfl, if_pos rfl]
            exact ih k (j + 1 + 1) (by omega) (by omega) (by omega) (fun m hm => by have : m = j + 1 := by omega
                                                                                    subst this; omega)
theorem ref_may (k : Nat) (a b c : Int) (s o : ByteArray) (d e f : Int) (A : List S43) (E : List S59) (L : List S62) (hE : E.length ≤ 140737488351232) (hL : L.length ≤ 140737488351232) (hk : E.length + L.length + 2300 < k) :
    ∃ r, cambiumref16_May.f k a b c s o d e f A E L = some r ∧ (r = true ↔ HeadP a b c s o d e f ∧ BodyP A E L) := by
  obtain ⟨k, rfl⟩ : ∃ j, k = j + 1 + 1 := ⟨k - 2, by omega⟩
  have hf : cambiumref16_May.j0 (k + 1 + 1) true a b c s o d e f A E L = some false := by rw [cambiumref16_May.j0, if_pos rfl]
  have hf1 : cambiumref16_May.j1 (k + 1) true a b c s o d e f A E L = some false := by rw [cambiumref16_May.j1, if_pos rfl]
  unfold cambiumref16_May.f
  by_cases h0 : a = 0
  · rw [if_pos h0, hf]; exact no_of (fun h => h.1.1 h0)
  rw [if_neg h0]
  by_cases h1 : b = 0
  · rw [if_pos h1, hf]; exact no_of (fun h => h.1.2.1 h1)
  rw [if_neg h1]
  by_cases h2 : c = b
  · rw [if_pos h2, hf]; exact no_of (fun h => h.1.2.2.1 h2)
  rw [if_neg h2, refname _ s (by omega), Option.bind_some]
  cases h3 : nameB s with
  | false => rw [if_neg Bool.false_ne_true, hf]; exact no_of (fun h => by have := h.1.2.2.2.1; rw [h3] at this; cases this)
  | true =>
  rw [if_pos rfl, refname _ o (by omega), Option.bind_some]
  cases h4 : nameB o with
  | false => rw [if_neg Bool.false_ne_true, hf]; exact no_of (fun h => by have := h.1.2.2.2.2.1; rw [h4] at this; cases this)
  | true =>
  rw [if_pos rfl, reftime, Option.bind_some]
  cases h5 : timeB d with
  | false => rw [if_neg Bool.false_ne_true, hf]; exact no_of (fun h => by have := h.1.2.2.2.2.2.1; rw [h5] at this; cases this)
  | true =>
  rw [if_pos rfl, reftime, Option.bind_some]
  cases h6 : timeB e with
  | false => rw [if_neg Bool.false_ne_true, hf]; exact no_of (fun h => by have := h.1.2.2.2.2.2.2.1; rw [h6] at this; cases this)
  | true =>
  rw [if_pos rfl]
  by_cases h7 : f < 0
  · rw [if_pos h7, hf]; exact no_of (fun h => by have := h.1.2.2.2.2.2.2.2.1; omega)
  rw [if_neg h7]
  by_cases h8 : f > 2
  · rw [decide_eq_true h8, hf]; exact no_of (fun h => by have := h.1.2.2.2.2.2.2.2.2; omega)
  have hh : HeadP a b c s o d e f := ⟨h0, h1, h2, h3, h4, h5, h6, by omega, by omega⟩
  rw [decide_eq_false h8, cambiumref16_May.j0, if_neg Bool.false_ne_true]
  by_cases h9 : (A.length : Int) > 16
  · rw [if_pos h9, hf1]; exact no_of (fun h => by have := h.2.2.1; omega)
  rw [if_neg h9]
  by_cases h10 : (E.length : Int) > 16
  · rw [if_pos h10, hf1]; exact no_of (fun h => by have := h.2.2.2.1; omega)
  rw [if_neg h10]
  by_cases h11 : (L.length : Int) > 16
  · rw [decide_eq_true h11, hf1]; exact no_of (fun h => by have := h.2.2.2.2.1; omega)
  have h12 := may_l0 a b c s o d e f A E L (by omega) hE hL A.length k 0 (by omega) (by omega) (by omega) (fun j hj => by omega)
  rw [decide_eq_false h11, cambiumref16_May.j1, if_neg Bool.false_ne_true, (show cambiumref16_May.l0 k 0 a b c s o d e f A E L = _ from h12)]
  refine ⟨_, rfl, ?_⟩
  rw [Bool.and_eq_true, Bool.and_eq_true, Bool.not_eq_true', Bool.not_eq_true']
  exact ⟨fun h => ⟨hh, h.1, by omega, by omega, by omega, h.2.1, h.2.2⟩, fun h => ⟨h.2.1, h.2.2.2.2.2.1, h.2.2.2.2.2.2⟩⟩
end Go.Proofs.YtkeepnmlphbffaaDoor.Pure

namespace Go.Proofs.YtkeepnmlphbffaaDoor.Walk
open Go.RowKit Go.Proofs.YtkeepnmlphbffaaDoorW.PrintWords Go.Proofs.YtkeepnmlphbffaaDoorW.PrintLast Go.Proofs.YtkeepnmlphbffaaDoorW.PrintMore Go.Proofs.YtkeepnmlphbffaaDoor.PSp Go.Proofs.YtkeepnmlphbffaaDoor.Math Go.Proofs.YtkeepnmlphbffaaDoor.Open Go.Proofs.YtkeepnmlphbffaaDoor.Span Go.Proofs.YtkeepnmlphbffaaDoor.Pure
set_option linter.unusedVariables false
set_option linter.unusedSimpArgs false
/-- What May tells of cells, in every world that grew out of W. -/
abbrev MayTells (W : World) (cs : Array Value) (r : Bool) : Prop := ∀ w, Below W.heap.size W w → Calls Tryd.prog 15 #[.agg cs] w fun e w' => e = .returned (.bool r) ∧ Below w.heap.size w w'
set_option maxHeartbeats 8000000 in
set_option maxRecDepth 100000 in
theorem fields_calls (x : S36) (A8 A9 A10 : Option Addr) (c8 c9 c10 : Nat) (n0 n1 n2 n3 m2 m3 : Int) (W : World) (hT : Tabs W) (hm2 : IntKind.i64.wrap n2 = m2) (hm3 : IntKind.i64.wrap n3 = m3) (q0 q1 q12 q2 q3 : Bool)
    (e0 : (n0 != 0) = q0) (e1 : (n1 != 0) = q1) (e12 : (n1 != x.f2) = q12) (e2 : decide (n2 ≤ 1152921504606846976) = q2) (e3 : decide (n3 ≤ 1152921504606846976) = q3)
    (hsm : ∃ r, ∀ w, Below W.heap.size W w → Calls Tryd.prog 13 #[.agg #[.int .u64 x.f0, .int .u64 x.f1, .int .u64 x.f2, .string x.f3, .string x.f4, .int .i64 x.f5, .int .i64 x.f6, .int .i64 x.f7, .slice A8 x.f8.length c8, .slice A9 x.f9.length c9, .slice A10 x.f10.length c10]] w fun e w' => e = .returned (.bool r) ∧ Below w.heap.size w w')
    (hrm : ∃ r, (∀ w, Below W.heap.size W w → Calls Tryd.prog 14 #[.agg #[.int .u64 x.f0, .int .u64 x.f1, .int .u64 x.f2, .string x.f3, .string x.f4, .int .i64 x.f5, .int .i64 x.f6, .int .i64 x.f7, .slice A8 x.f8.length c8, .slice A9 x.f9.length c9, .slice A10 x.f10.length c10]] w fun e w' => e = .returned (.bool r) ∧ Below w.heap.size w w') ∧
      (r = true → MayTells W #[.int .u64 n0, .int .u64 x.f1, .int .u64 x.f2, .string x.f3, .string x.f4, .int .i64 x.f5, .int .i64 x.f6, .int .i64 x.f7, .slice A8 x.f8.length c8, .slice A9 x.f9.length c9, .slice A10 x.f10.length c10] q0 ∧ MayTells W #[.int .u64 x.f0, .int .u64 n1, .int .u64 x.f2, .string x.f3, .string x.f4, .int .i64 x.f5, .int .i64 x.f6, .int .i64 x.f7, .slice A8 x.f8.length c8, .slice A9 x.f9.length c9, .slice A10 x.f10.length c10] (q1 && q12) ∧ MayTells W #[.int .u64 x.f0, .int .u64 x.f1, .int .u64 x.f2, .string x.f3, .string x.f4, .int .i64 m2, .int .i64 x.f6, .int .i64 x.f7, .slice A8 x.f8.length c8, .slice A9 x.f9.length c9, .slice A10 x.f10.length c10] q2 ∧ MayTells W #[.int .u64 x.f0, .int .u64 x.f1, .int .u64 x.f2, .string x.f3, .string x.f4, .int .i64 x.f5, .int .i64 m3, .int .i64 x.f7, .slice A8 x.f8.length c8, .slice A9 x.f9.length c9, .slice A10 x.f10.length c10] q3)) :
    Calls Tryd.prog 5 #[.agg #[.int .u64 x.f0, .int .u64 x.f1, .int .u64 x.f2, .string x.f3, .string x.f4, .int .i64 x.f5, .int .i64 x.f6, .int .i64 x.f7, .slice A8 x.f8.length c8, .slice A9 x.f9.length c9, .slice A10 x.f10.length c10], .agg #[.int .u64 n0, .int .u64 n1, .int .u64 n2, .int .u64 n3]] W fun e w' => e = .returned (.bool true) ∧ Below W.heap.size W w' := by
  have haw := cambiumlaw16_awake.calls 2 true ((W.alloc (.cells #[.int .u64 x.f0, .int .u64 x.f1, .int .u64 x.f2, .string x.f3, .string x.f4, .int .i64 x.f5, .int .i64 x.f6, .int .i64 x.f7, .slice A8 x.f8.length c8, .slice A9 x.f9.length c9, .slice A10 x.f10.length c10] 36)).alloc (.cells #[.int .u64 n0, .int .u64 n1, .int .u64 n2, .int .u64 n3] 37)) (awakeS 0) (tabs_below hT (below_alloc (below_alloc (Below.refl _ _) _) _))
  have hbw0 := below_alloc (below_alloc (Below.refl W.heap.size W) (.cells #[.int .u64 x.f0, .int .u64 x.f1, .int .u64 x.f2, .string x.f3, .string x.f4, .int .i64 x.f5, .int .i64 x.f6, .int .i64 x.f7, .slice A8 x.f8.length c8, .slice A9 x.f9.length c9, .slice A10 x.f10.length c10] 36)) (.cells #[.int .u64 n0, .int .u64 n1, .int .u64 n2, .int .u64 n3] 37)
  have hks0 := heap_alloc2_old W (.cells #[.int .u64 x.f0, .int .u64 x.f1, .int .u64 x.f2, .string x.f3, .string x.f4, .int .i64 x.f5, .int .i64 x.f6, .int .i64 x.f7, .slice A8 x.f8.length c8, .slice A9 x.f9.length c9, .slice A10 x.f10.length c10] 36) (.cells #[.int .u64 n0, .int .u64 n1, .int .u64 n2, .int .u64 n3] 37)
  have hkn0 := heap_alloc2_new W (.cells #[.int .u64 x.f0, .int .u64 x.f1, .int .u64 x.f2, .string x.f3, .string x.f4, .int .i64 x.f5, .int .i64 x.f6, .int .i64 x.f7, .slice A8 x.f8.length c8, .slice A9 x.f9.length c9, .slice A10 x.f10.length c10] 36) (.cells #[.int .u64 n0, .int .u64 n1, .int .u64 n2, .int .u64 n3] 37)
  obtain ⟨rs, hsm⟩ := hsm
  obtain ⟨rm, hrm, hmt⟩ := hrm
  have HAW := Lib.hid haw
  have HW0 := Lib.hid hbw0
  have KS0 := Lib.hid hks0
  have KN0 := Lib.hid hkn0
  have HSM := Lib.hid hsm
  have HRM := Lib.hid hrm
  have HMT := Lib.hid hmt
  clear hT haw hbw0 hks0 hkn0 hsm hrm hmt
  go_enter Tryd.func5, Tryd.ntmps5
  go_wp2_with fail
  refine HAW.out.mono ?_
  rintro e w1 ⟨rfl, hb⟩
  have HW1 := Lib.hid (below_step HW0.out hb)
  have KS1 := Lib.hid (block_below KS0.out hb)
  have KN1 := Lib.hid (block_below KN0.out hb)
  clear hb HAW HW0 KS0 KN0
  have hz0 : w1.cell? ⟨W.heap.size, 0, none⟩ = some (.int .u64 x.f0) := (blk_cell KS1.out 0).trans rfl
  have hz1 : w1.cell? ⟨W.heap.size, 1, none⟩ = some (.int .u64 x.f1) := (blk_cell KS1.out 1).trans rfl
  have hz2 : w1.cell? ⟨W.heap.size, 2, none⟩ = some (.int .u64 x.f2) := (blk_cell KS1.out 2).trans rfl
  have hz3 : w1.cell? ⟨W.heap.size, 3, none⟩ = some (.string x.f3) := (blk_cell KS1.out 3).trans rfl
  have hz4 : w1.cell? ⟨W.heap.size, 4, none⟩ = some (.string x.f4) := (blk_cell KS1.out 4).trans rfl
  have hz5 : w1.cell? ⟨W.heap.size, 5, none⟩ = some (.int .i64 x.f5) := (blk_cell KS1.out 5).trans rfl
  have hz6 : w1.cell? ⟨W.heap.size, 6, none⟩ = some (.int .i64 x.f6) := (blk_cell KS1.out 6).trans rfl
  have hz7 : w1.cell? ⟨W.heap.size, 7, none⟩ = some (.int .i64 x.f7) := (blk_cell KS1.out 7).trans rfl
  have hz8 : w1.cell? ⟨W.heap.size, 8, none⟩ = some (.slice A8 x.f8.length c8) := (blk_cell KS1.out 8).trans rfl
  have hz9 : w1.cell? ⟨W.heap.size, 9, none⟩ = some (.slice A9 x.f9.length c9) := (blk_cell KS1.out 9).trans rfl
  have hz10 : w1.cell? ⟨W.heap.size, 10, none⟩ = some (.slice A10 x.f10.length c10) := (blk_cell KS1.out 10).trans rfl
  go_wp2_with fail
  refine (HSM.out w1 HW1.out).mono ?_
  rintro e w2 ⟨rfl, hb⟩
  have HW2 := Lib.hid (below_step HW1.out hb)
  have KS2 := Lib.hid (block_below KS1.out hb)
  have KN2 := Lib.hid (block_below KN1.out hb)
  clear hb hz0 hz1 hz2 hz3 hz4 hz5 hz6 hz7 hz8 hz9 hz10
  cases rs with
  | false =>
    go_wp2
    go_ret
    exact ⟨rfl, HW2.out⟩
  | true =>
    have hz0 : w2.cell? ⟨W.heap.size, 0, none⟩ = some (.int .u64 x.f0) := (blk_cell KS2.out 0).trans rfl
    have hz1 : w2.cell? ⟨W.heap.size, 1, none⟩ = some (.int .u64 x.f1) := (blk_cell KS2.out 1).trans rfl
    have hz2 : w2.cell? ⟨W.heap.size, 2, none⟩ = some (.int .u64 x.f2) := (blk_cell KS2.out 2).trans rfl
    have hz3 : w2.cell? ⟨W.heap.size, 3, none⟩ = some (.string x.f3) := (blk_cell KS2.out 3).trans rfl
    have hz4 : w2.cell? ⟨W.heap.size, 4, none⟩ = some (.string x.f4) := (blk_cell KS2.out 4).trans rfl
    have hz5 : w2.cell? ⟨W.heap.size, 5, none⟩ = some (.int .i64 x.f5) := (blk_cell KS2.out 5).trans rfl
    have hz6 : w2.cell? ⟨W.heap.size, 6, none⟩ = some (.int .i64 x.f6) := (blk_cell KS2.out 6).trans rfl
    have hz7 : w2.cell? ⟨W.heap.size, 7, none⟩ = some (.int .i64 x.f7) := (blk_cell KS2.out 7).trans rfl
    have hz8 : w2.cell? ⟨W.heap.size, 8, none⟩ = some (.slice A8 x.f8.length c8) := (blk_cell KS2.out 8).trans rfl
    have hz9 : w2.cell? ⟨W.heap.size, 9, none⟩ = some (.slice A9 x.f9.length c9) := (blk_cell KS2.out 9).trans rfl
    have hz10 : w2.cell? ⟨W.heap.size, 10, none⟩ = some (.slice A10 x.f10.length c10) := (blk_cell KS2.out 10).trans rfl
    go_wp2_with fail
    refine (HRM.out w2 HW2.out).mono ?_
    rintro e w3 ⟨rfl, hb⟩
    have HW3 := Lib.hid (below_step HW2.out hb)
    have KS3 := Lib.hid (block_below KS2.out hb)
    have KN3 := Lib.hid (block_below KN2.out hb)
    clear hb hz0 hz1 hz2 hz3 hz4 hz5 hz6 hz7 hz8 hz9 hz10
    cases rm with
    | false =>
      go_wp2
      go_ret
      exact ⟨rfl, HW3.out⟩
    | true =>
      obtain ⟨ma, mb, mc, md⟩ := HMT.out rfl
      have HA := Lib.hid ma
      have HBB := Lib.hid mb
      have HC := Lib.hid mc
      have HD := Lib.hid md
      clear ma mb mc md HSM HRM HMT HW1 HW2 KS1 KS2 KN1 KN2
      have hz0 : w3.cell? ⟨W.heap.size, 0, none⟩ = some (.int .u64 x.f0) := (blk_cell KS3.out 0).trans rfl
      have hz1 : w3.cell? ⟨W.heap.size, 1, none⟩ = some (.int .u64 x.f1) := (blk_cell KS3.out 1).trans rfl
      have hz2 : w3.cell? ⟨W.heap.size, 2, none⟩ = some (.int .u64 x.f2) := (blk_cell KS3.out 2).trans rfl
      have hz3 : w3.cell? ⟨W.heap.size, 3, none⟩ = some (.string x.f3) := (blk_cell KS3.out 3).trans rfl
      have hz4 : w3.cell? ⟨W.heap.size, 4, none⟩ = some (.string x.f4) := (blk_cell KS3.out 4).trans rfl
      have hz5 : w3.cell? ⟨W.heap.size, 5, none⟩ = some (.int .i64 x.f5) := (blk_cell KS3.out 5).trans rfl
      have hz6 : w3.cell? ⟨W.heap.size, 6, none⟩ = some (.int .i64 x.f6) := (blk_cell KS3.out 6).trans rfl
      have hz7 : w3.cell? ⟨W.heap.size, 7, none⟩ = some (.int .i64 x.f7) := (blk_cell KS3.out 7).trans rfl
      have hz8 : w3.cell? ⟨W.heap.size, 8, none⟩ = some (.slice A8 x.f8.length c8) := (blk_cell KS3.out 8).trans rfl
      have hz9 : w3.cell? ⟨W.heap.size, 9, none⟩ = some (.slice A9 x.f9.length c9) := (blk_cell KS3.out 9).trans rfl
      have hz10 : w3.cell? ⟨W.heap.size, 10, none⟩ = some (.slice A10 x.f10.length c10) := (blk_cell KS3.out 10).trans rfl
      have hn0 : w3.cell? ⟨W.heap.size + 1, 0, none⟩ = some (.int .u64 n0) := (blk_cell KN3.out 0).trans rfl
      have hn1 : w3.cell? ⟨W.heap.size + 1, 1, none⟩ = some (.int .u64 n1) := (blk_cell KN3.out 1).trans rfl
      have hn2 : w3.cell? ⟨W.heap.size + 1, 2, none⟩ = some (.int .u64 n2) := (blk_cell KN3.out 2).trans rfl
      have hn3 : w3.cell? ⟨W.heap.size + 1, 3, none⟩ = some (.int .u64 n3) := (blk_cell KN3.out 3).trans rfl
      have hlt : W.heap.size + 1 < w3.heap.size := blk_lt KN3.out
      have hq0 : (W.heap.size = w3.heap.size) = False := eq_false (by omega)
      have hq1 : (W.heap.size + 1 = w3.heap.size) = False := eq_false (by omega)
      have hq2 : (W.heap.size = w3.heap.size + 1) = False := eq_false (by omega)
      have hq3 : (W.heap.size = w3.heap.size + 1 + 1) = False := eq_false (by omega)
      have hq4 : (W.heap.size = w3.heap.size + 1 + 1 + 1) = False := eq_false (by omega)
      have hq5 : (W.heap.size + 1 = w3.heap.size + 1) = False := eq_false (by omega)
      have hq6 : (W.heap.size + 1 = w3.heap.size + 1 + 1) = False := eq_false (by omega)
      have hq7 : (W.heap.size + 1 = w3.heap.size + 1 + 1 + 1) = False := eq_false (by omega)
      have hr3 : (W.heap.size = w3.heap.size + 2) = False := eq_false (by omega)
      have hr4 : (W.heap.size = w3.heap.size + 3) = False := eq_false (by omega)
      have hr6 : (W.heap.size + 1 = w3.heap.size + 2) = False := eq_false (by omega)
      have hr7 : (W.heap.size + 1 = w3.heap.size + 3) = False := eq_false (by omega)
      have hm0_ : (W.heap.size < w3.heap.size + 1) = True := eq_true (by omega)
      have hm1_ : (W.heap.size < w3.heap.size + 1 + 1) = True := eq_true (by omega)
      have hm2_ : (W.heap.size < w3.heap.size + 1 + 1 + 1) = True := eq_true (by omega)
      have hm3_ : (W.heap.size < w3.heap.size + 2) = True := eq_true (by omega)
      have hm4_ : (W.heap.size < w3.heap.size + 3) = True := eq_true (by omega)
      have hm5_ : (W.heap.size + 1 < w3.heap.size + 1) = True := eq_true (by omega)
      have hm6_ : (W.heap.size + 1 < w3.heap.size + 1 + 1) = True := eq_true (by omega)
      have hm7_ : (W.heap.size + 1 < w3.heap.size + 1 + 1 + 1) = True := eq_true (by omega)
      have hm8_ : (W.heap.size + 1 < w3.heap.size + 2) = True := eq_true (by omega)
      have hm9_ : (W.heap.size + 1 < w3.heap.size + 3) = True := eq_true (by omega)
      have hn10_ : W.heap.size ≠ w3.heap.size := by omega
      have hn11_ : W.heap.size + 1 ≠ w3.heap.size := by omega
      have hn12_ : W.heap.size ≠ w3.heap.size + 1 := by omega
      have hn13_ : W.heap.size + 1 ≠ w3.heap.size + 1 := by omega
      have hn14_ : W.heap.size ≠ w3.heap.size + 1 + 1 := by omega
      have hn15_ : W.heap.size + 1 ≠ w3.heap.size + 1 + 1 := by omega
      have hn16_ : W.heap.size ≠ w3.heap.size + 1 + 1 + 1 := by omega
      have hn17_ : W.heap.size + 1 ≠ w3.heap.size + 1 + 1 + 1 := by omega
      have hn18_ : W.heap.size ≠ w3.heap.size + 2 := by omega
      have hn19_ : W.heap.size + 1 ≠ w3.heap.size + 2 := by omega
      have hn20_ : W.heap.size ≠ w3.heap.size + 3 := by omega
      have hn21_ : W.heap.size + 1 ≠ w3.heap.size + 3 := by omega
      have hl0 : (W.heap.size < w3.heap.size) = True := eq_true (by omega)
      have hl1 : (W.heap.size + 1 < w3.heap.size) = True := eq_true (by omega)
      clear hlt
      go_wp2
      clear hq0 hq1 hq2 hq3 hq4 hq5 hq6 hq7 hr3 hr4 hr6 hr7 hl0 hl1 hm0_ hm1_ hm2_ hm3_ hm4_ hm5_ hm6_ hm7_ hm8_ hm9_ hn10_ hn11_ hn12_ hn13_ hn14_ hn15_ hn16_ hn17_ hn18_ hn19_ hn20_ hn21_
      obtain ⟨wd, hwd⟩ : ∃ wd, wd = ((((w3.alloc (.cells #[.int .u64 n0, .int .u64 x.f1, .int .u64 x.f2, .string x.f3, .string x.f4, .int .i64 x.f5, .int .i64 x.f6, .int .i64 x.f7, .slice A8 x.f8.length c8, .slice A9 x.f9.length c9, .slice A10 x.f10.length c10] 36)).alloc (.cells #[.int .u64 x.f0, .int .u64 n1, .int .u64 x.f2, .string x.f3, .string x.f4, .int .i64 x.f5, .int .i64 x.f6, .int .i64 x.f7, .slice A8 x.f8.length c8, .slice A9 x.f9.length c9, .slice A10 x.f10.length c10] 36)).alloc (.cells #[.int .u64 x.f0, .int .u64 x.f1, .int .u64 x.f2, .string x.f3, .string x.f4, .int .i64 m2, .int .i64 x.f6, .int .i64 x.f7, .slice A8 x.f8.length c8, .slice A9 x.f9.length c9, .slice A10 x.f10.length c10] 36)).alloc (.cells #[.int .u64 x.f0, .int .u64 x.f1, .int .u64 x.f2, .string x.f3, .string x.f4, .int .i64 x.f5, .int .i64 m3, .int .i64 x.f7, .slice A8 x.f8.length c8, .slice A9 x.f9.length c9, .slice A10 x.f10.length c10] 36)) := ⟨_, rfl⟩
      have z1 : (w3.alloc (.cells #[.int .u64 n0, .int .u64 x.f1, .int .u64 x.f2, .string x.f3, .string x.f4, .int .i64 x.f5, .int .i64 x.f6, .int .i64 x.f7, .slice A8 x.f8.length c8, .slice A9 x.f9.length c9, .slice A10 x.f10.length c10] 36)).heap.size = w3.heap.size + 1 := by simp
      have z2 : ((w3.alloc (.cells #[.int .u64 n0, .int .u64 x.f1, .int .u64 x.f2, .string x.f3, .string x.f4, .int .i64 x.f5, .int .i64 x.f6, .int .i64 x.f7, .slice A8 x.f8.length c8, .slice A9 x.f9.length c9, .slice A10 x.f10.length c10] 36)).alloc (.cells #[.int .u64 x.f0, .int .u64 n1, .int .u64 x.f2, .string x.f3, .string x.f4, .int .i64 x.f5, .int .i64 x.f6, .int .i64 x.f7, .slice A8 x.f8.length c8, .slice A9 x.f9.length c9, .slice A10 x.f10.length c10] 36)).heap.size = w3.heap.size + 1 + 1 := by simp
      have z3 : (((w3.alloc (.cells #[.int .u64 n0, .int .u64 x.f1, .int .u64 x.f2, .string x.f3, .string x.f4, .int .i64 x.f5, .int .i64 x.f6, .int .i64 x.f7, .slice A8 x.f8.length c8, .slice A9 x.f9.length c9, .slice A10 x.f10.length c10] 36)).alloc (.cells #[.int .u64 x.f0, .int .u64 n1, .int .u64 x.f2, .string x.f3, .string x.f4, .int .i64 x.f5, .int .i64 x.f6, .int .i64 x.f7, .slice A8 x.f8.length c8, .slice A9 x.f9.length c9, .slice A10 x.f10.length c10] 36)).alloc (.cells #[.int .u64 x.f0, .int .u64 x.f1, .int .u64 x.f2, .string x.f3, .string x.f4, .int .i64 m2, .int .i64 x.f6, .int .i64 x.f7, .slice A8 x.f8.length c8, .slice A9 x.f9.length c9, .slice A10 x.f10.length c10] 36)).heap.size = w3.heap.size + 1 + 1 + 1 := by simp
      have d3 : Below (((w3.alloc (.cells #[.int .u64 n0, .int .u64 x.f1, .int .u64 x.f2, .string x.f3, .string x.f4, .int .i64 x.f5, .int .i64 x.f6, .int .i64 x.f7, .slice A8 x.f8.length c8, .slice A9 x.f9.length c9, .slice A10 x.f10.length c10] 36)).alloc (.cells #[.int .u64 x.f0, .int .u64 n1, .int .u64 x.f2, .string x.f3, .string x.f4, .int .i64 x.f5, .int .i64 x.f6, .int .i64 x.f7, .slice A8 x.f8.length c8, .slice A9 x.f9.length c9, .slice A10 x.f10.length c10] 36)).alloc (.cells #[.int .u64 x.f0, .int .u64 x.f1, .int .u64 x.f2, .string x.f3, .string x.f4, .int .i64 m2, .int .i64 x.f6, .int .i64 x.f7, .slice A8 x.f8.length c8, .slice A9 x.f9.length c9, .slice A10 x.f10.length c10] 36)).heap.size (((w3.alloc (.cells #[.int .u64 n0, .int .u64 x.f1, .int .u64 x.f2, .string x.f3, .string x.f4, .int .i64 x.f5, .int .i64 x.f6, .int .i64 x.f7, .slice A8 x.f8.length c8, .slice A9 x.f9.length c9, .slice A10 x.f10.length c10] 36)).alloc (.cells #[.int .u64 x.f0, .int .u64 n1, .int .u64 x.f2, .string x.f3, .string x.f4, .int .i64 x.f5, .int .i64 x.f6, .int .i64 x.f7, .slice A8 x.f8.length c8, .slice A9 x.f9.length c9, .slice A10 x.f10.length c10] 36)).alloc (.cells #[.int .u64 x.f0, .int .u64 x.f1, .int .u64 x.f2, .string x.f3, .string x.f4, .int .i64 m2, .int .i64 x.f6, .int .i64 x.f7, .slice A8 x.f8.length c8, .slice A9 x.f9.length c9, .slice A10 x.f10.length c10] 36)) wd := by rw [hwd]; exact below_alloc (Below.refl _ _) _
      have d2 : Below ((w3.alloc (.cells #[.int .u64 n0, .int .u64 x.f1, .int .u64 x.f2, .string x.f3, .string x.f4, .int .i64 x.f5, .int .i64 x.f6, .int .i64 x.f7, .slice A8 x.f8.length c8, .slice A9 x.f9.length c9, .slice A10 x.f10.length c10] 36)).alloc (.cells #[.int .u64 x.f0, .int .u64 n1, .int .u64 x.f2, .string x.f3, .string x.f4, .int .i64 x.f5, .int .i64 x.f6, .int .i64 x.f7, .slice A8 x.f8.length c8, .slice A9 x.f9.length c9, .slice A10 x.f10.length c10] 36)).heap.size ((w3.alloc (.cells #[.int .u64 n0, .int .u64 x.f1, .int .u64 x.f2, .string x.f3, .string x.f4, .int .i64 x.f5, .int .i64 x.f6, .int .i64 x.f7, .slice A8 x.f8.length c8, .slice A9 x.f9.length c9, .slice A10 x.f10.length c10] 36)).alloc (.cells #[.int .u64 x.f0, .int .u64 n1, .int .u64 x.f2, .string x.f3, .string x.f4, .int .i64 x.f5, .int .i64 x.f6, .int .i64 x.f7, .slice A8 x.f8.length c8, .slice A9 x.f9.length c9, .slice A10 x.f10.length c10] 36)) wd := below_step (below_alloc (Below.refl _ _) _) d3
      have d1 : Below (w3.alloc (.cells #[.int .u64 n0, .int .u64 x.f1, .int .u64 x.f2, .string x.f3, .string x.f4, .int .i64 x.f5, .int .i64 x.f6, .int .i64 x.f7, .slice A8 x.f8.length c8, .slice A9 x.f9.length c9, .slice A10 x.f10.length c10] 36)).heap.size (w3.alloc (.cells #[.int .u64 n0, .int .u64 x.f1, .int .u64 x.f2, .string x.f3, .string x.f4, .int .i64 x.f5, .int .i64 x.f6, .int .i64 x.f7, .slice A8 x.f8.length c8, .slice A9 x.f9.length c9, .slice A10 x.f10.length c10] 36)) wd := below_step (below_alloc (Below.refl _ _) _) d2
      have d0 : Below w3.heap.size w3 wd := below_step (below_alloc (Below.refl _ _) _) d1
      have k5 := blk_drew (block_below (heap_alloc_new w3 (.cells #[.int .u64 n0, .int .u64 x.f1, .int .u64 x.f2, .string x.f3, .string x.f4, .int .i64 x.f5, .int .i64 x.f6, .int .i64 x.f7, .slice A8 x.f8.length c8, .slice A9 x.f9.length c9, .slice A10 x.f10.length c10] 36)) d1)
      have k6 := blk_drew (block_below (heap_alloc_new (w3.alloc (.cells #[.int .u64 n0, .int .u64 x.f1, .int .u64 x.f2, .string x.f3, .string x.f4, .int .i64 x.f5, .int .i64 x.f6, .int .i64 x.f7, .slice A8 x.f8.length c8, .slice A9 x.f9.length c9, .slice A10 x.f10.length c10] 36)) (.cells #[.int .u64 x.f0, .int .u64 n1, .int .u64 x.f2, .string x.f3, .string x.f4, .int .i64 x.f5, .int .i64 x.f6, .int .i64 x.f7, .slice A8 x.f8.length c8, .slice A9 x.f9.length c9, .slice A10 x.f10.length c10] 36)) d2)
      have k7 := blk_drew (block_below (heap_alloc_new ((w3.alloc (.cells #[.int .u64 n0, .int .u64 x.f1, .int .u64 x.f2, .string x.f3, .string x.f4, .int .i64 x.f5, .int .i64 x.f6, .int .i64 x.f7, .slice A8 x.f8.length c8, .slice A9 x.f9.length c9, .slice A10 x.f10.length c10] 36)).alloc (.cells #[.int .u64 x.f0, .int .u64 n1, .int .u64 x.f2, .string x.f3, .string x.f4, .int .i64 x.f5, .int .i64 x.f6, .int .i64 x.f7, .slice A8 x.f8.length c8, .slice A9 x.f9.length c9, .slice A10 x.f10.length c10] 36)) (.cells #[.int .u64 x.f0, .int .u64 x.f1, .int .u64 x.f2, .string x.f3, .string x.f4, .int .i64 m2, .int .i64 x.f6, .int .i64 x.f7, .slice A8 x.f8.length c8, .slice A9 x.f9.length c9, .slice A10 x.f10.length c10] 36)) d3)
      have k8 : wd.drew.heap[(((w3.alloc (.cells #[.int .u64 n0, .int .u64 x.f1, .int .u64 x.f2, .string x.f3, .string x.f4, .int .i64 x.f5, .int .i64 x.f6, .int .i64 x.f7, .slice A8 x.f8.length c8, .slice A9 x.f9.length c9, .slice A10 x.f10.length c10] 36)).alloc (.cells #[.int .u64 x.f0, .int .u64 n1, .int .u64 x.f2, .string x.f3, .string x.f4, .int .i64 x.f5, .int .i64 x.f6, .int .i64 x.f7, .slice A8 x.f8.length c8, .slice A9 x.f9.length c9, .slice A10 x.f10.length c10] 36)).alloc (.cells #[.int .u64 x.f0, .int .u64 x.f1, .int .u64 x.f2, .string x.f3, .string x.f4, .int .i64 m2, .int .i64 x.f6, .int .i64 x.f7, .slice A8 x.f8.length c8, .slice A9 x.f9.length c9, .slice A10 x.f10.length c10] 36)).heap.size]? = some (.cells #[.int .u64 x.f0, .int .u64 x.f1, .int .u64 x.f2, .string x.f3, .string x.f4, .int .i64 x.f5, .int .i64 m3, .int .i64 x.f7, .slice A8 x.f8.length c8, .slice A9 x.f9.length c9, .slice A10 x.f10.length c10] 36) := by rw [hwd]; exact blk_drew (heap_alloc_new (((w3.alloc (.cells #[.int .u64 n0, .int .u64 x.f1, .int .u64 x.f2, .string x.f3, .string x.f4, .int .i64 x.f5, .int .i64 x.f6, .int .i64 x.f7, .slice A8 x.f8.length c8, .slice A9 x.f9.length c9, .slice A10 x.f10.length c10] 36)).alloc (.cells #[.int .u64 x.f0, .int .u64 n1, .int .u64 x.f2, .string x.f3, .string x.f4, .int .i64 x.f5, .int .i64 x.f6, .int .i64 x.f7, .slice A8 x.f8.length c8, .slice A9 x.f9.length c9, .slice A10 x.f10.length c10] 36)).alloc (.cells #[.int .u64 x.f0, .int .u64 x.f1, .int .u64 x.f2, .string x.f3, .string x.f4, .int .i64 m2, .int .i64 x.f6, .int .i64 x.f7, .slice A8 x.f8.length c8, .slice A9 x.f9.length c9, .slice A10 x.f10.length c10] 36)) (.cells #[.int .u64 x.f0, .int .u64 x.f1, .int .u64 x.f2, .string x.f3, .string x.f4, .int .i64 x.f5, .int .i64 m3, .int .i64 x.f7, .slice A8 x.f8.length c8, .slice A9 x.f9.length c9, .slice A10 x.f10.length c10] 36))
      have kn := blk_drew (block_below KN3.out d0)
      have ks := blk_drew (block_below KS3.out d0)
      have hbd := (below_step HW3.out d0).drew
      rw [z1] at k6
      rw [z2] at k7
      rw [z3] at k8
      rw [← hwd]
      clear hwd z1 z2 z3 d0 d1 d2 d3 KN3 KS3 HW3 hz0 hz1 hz2 hz3 hz4 hz5 hz6 hz7 hz8 hz9 hz10 hn0 hn1 hn2 hn3
      have s0 : (q0 == q0) = true := beq_self_eq_true q0
      have s12 : (q12 == q12) = true := beq_self_eq_true q12
      have s2 : (q2 == q2) = true := beq_self_eq_true q2
      have s3 : (q3 == q3) = true := beq_self_eq_true q3
      cases q1 with
      | true =>
        refine start_ (n := 38) (S := fun w' => w'.cell? ⟨w3.heap.size, 0, none⟩ = some (.int .u64 n0) ∧ w'.cell? ⟨w3.heap.size, 1, none⟩ = some (.int .u64 x.f1) ∧ w'.cell? ⟨w3.heap.size, 2, none⟩ = some (.int .u64 x.f2) ∧ w'.cell? ⟨w3.heap.size, 3, none⟩ = some (.string x.f3) ∧ w'.cell? ⟨w3.heap.size, 4, none⟩ = some (.string x.f4) ∧ w'.cell? ⟨w3.heap.size, 5, none⟩ = some (.int .i64 x.f5) ∧ w'.cell? ⟨w3.heap.size, 6, none⟩ = some (.int .i64 x.f6) ∧ w'.cell? ⟨w3.heap.size, 7, none⟩ = some (.int .i64 x.f7) ∧ w'.cell? ⟨w3.heap.size, 8, none⟩ = some (.slice A8 x.f8.length c8) ∧ w'.cell? ⟨w3.heap.size, 9, none⟩ = some (.slice A9 x.f9.length c9) ∧ w'.cell? ⟨w3.heap.size, 10, none⟩ = some (.slice A10 x.f10.length c10) ∧ w'.cell? ⟨w3.heap.size + 1, 0, none⟩ = some (.int .u64 x.f0) ∧ w'.cell? ⟨w3.heap.size + 1, 1, none⟩ = some (.int .u64 n1) ∧ w'.cell? ⟨w3.heap.size + 1, 2, none⟩ = some (.int .u64 x.f2) ∧ w'.cell? ⟨w3.heap.size + 1, 3, none⟩ = some (.string x.f3) ∧ w'.cell? ⟨w3.heap.size + 1, 4, none⟩ = some (.string x.f4) ∧ w'.cell? ⟨w3.heap.size + 1, 5, none⟩ = some (.int .i64 x.f5) ∧ w'.cell? ⟨w3.heap.size + 1, 6, none⟩ = some (.int .i64 x.f6) ∧ w'.cell? ⟨w3.heap.size + 1, 7, none⟩ = some (.int .i64 x.f7) ∧ w'.cell? ⟨w3.heap.size + 1, 8, none⟩ = some (.slice A8 x.f8.length c8) ∧ w'.cell? ⟨w3.heap.size + 1, 9, none⟩ = some (.slice A9 x.f9.length c9) ∧ w'.cell? ⟨w3.heap.size + 1, 10, none⟩ = some (.slice A10 x.f10.length c10) ∧ w'.cell? ⟨w3.heap.size + 1 + 1, 0, none⟩ = some (.int .u64 x.f0) ∧ w'.cell? ⟨w3.heap.size + 1 + 1, 1, none⟩ = some (.int .u64 x.f1) ∧ w'.cell? ⟨w3.heap.size + 1 + 1, 2, none⟩ = some (.int .u64 x.f2) ∧ w'.cell? ⟨w3.heap.size + 1 + 1, 3, none⟩ = some (.string x.f3) ∧ w'.cell? ⟨w3.heap.size + 1 + 1, 4, none⟩ = some (.string x.f4) ∧ w'.cell? ⟨w3.heap.size + 1 + 1, 5, none⟩ = some (.int .i64 m2) ∧ w'.cell? ⟨w3.heap.size + 1 + 1, 6, none⟩ = some (.int .i64 x.f6) ∧ w'.cell? ⟨w3.heap.size + 1 + 1, 7, none⟩ = some (.int .i64 x.f7) ∧ w'.cell? ⟨w3.heap.size + 1 + 1, 8, none⟩ = some (.slice A8 x.f8.length c8) ∧ w'.cell? ⟨w3.heap.size + 1 + 1, 9, none⟩ = some (.slice A9 x.f9.length c9) ∧ w'.cell? ⟨w3.heap.size + 1 + 1, 10, none⟩ = some (.slice A10 x.f10.length c10) ∧ w'.cell? ⟨w3.heap.size + 1 + 1 + 1, 0, none⟩ = some (.int .u64 x.f0) ∧ w'.cell? ⟨w3.heap.size + 1 + 1 + 1, 1, none⟩ = some (.int .u64 x.f1) ∧ w'.cell? ⟨w3.heap.size + 1 + 1 + 1, 2, none⟩ = some (.int .u64 x.f2) ∧ w'.cell? ⟨w3.heap.size + 1 + 1 + 1, 3, none⟩ = some (.string x.f3) ∧ w'.cell? ⟨w3.heap.size + 1 + 1 + 1, 4, none⟩ = some (.string x.f4) ∧ w'.cell? ⟨w3.heap.size + 1 + 1 + 1, 5, none⟩ = some (.int .i64 x.f5) ∧ w'.cell? ⟨w3.heap.size + 1 + 1 + 1, 6, none⟩ = some (.int .i64 m3) ∧ w'.cell? ⟨w3.heap.size + 1 + 1 + 1, 7, none⟩ = some (.int .i64 x.f7) ∧ w'.cell? ⟨w3.heap.size + 1 + 1 + 1, 8, none⟩ = some (.slice A8 x.f8.length c8) ∧ w'.cell? ⟨w3.heap.size + 1 + 1 + 1, 9, none⟩ = some (.slice A9 x.f9.length c9) ∧ w'.cell? ⟨w3.heap.size + 1 + 1 + 1, 10, none⟩ = some (.slice A10 x.f10.length c10) ∧ w'.cell? ⟨W.heap.size + 1, 0, none⟩ = some (.int .u64 n0) ∧ w'.cell? ⟨W.heap.size + 1, 1, none⟩ = some (.int .u64 n1) ∧ w'.cell? ⟨W.heap.size + 1, 2, none⟩ = some (.int .u64 n2) ∧ w'.cell? ⟨W.heap.size + 1, 3, none⟩ = some (.int .u64 n3) ∧ w'.cell? ⟨W.heap.size, 2, none⟩ = some (.int .u64 x.f2)) (ds := []) #[false, false, false, false, false, false, false, false, false, false, false, false, false, false, false, false, false, false, false, false, false, false, false, false, false, false, false, false, false, false, false, false, false, false, false, false, false, false] (by kernel_rfl) rfl rfl ⟨(blk_cell k5 0).trans rfl, (blk_cell k5 1).trans rfl, (blk_cell k5 2).trans rfl, (blk_cell k5 3).trans rfl, (blk_cell k5 4).trans rfl, (blk_cell k5 5).trans rfl, (blk_cell k5 6).trans rfl, (blk_cell k5 7).trans rfl, (blk_cell k5 8).trans rfl, (blk_cell k5 9).trans rfl, (blk_cell k5 10).trans rfl, (blk_cell k6 0).trans rfl, (blk_cell k6 1).trans rfl, (blk_cell k6 2).trans rfl, (blk_cell k6 3).trans rfl, (blk_cell k6 4).trans rfl, (blk_cell k6 5).trans rfl, (blk_cell k6 6).trans rfl, (blk_cell k6 7).trans rfl, (blk_cell k6 8).trans rfl, (blk_cell k6 9).trans rfl, (blk_cell k6 10).trans rfl, (blk_cell k7 0).trans rfl, (blk_cell k7 1).trans rfl, (blk_cell k7 2).trans rfl, (blk_cell k7 3).trans rfl, (blk_cell k7 4).trans rfl, (blk_cell k7 5).trans rfl, (blk_cell k7 6).trans rfl, (blk_cell k7 7).trans rfl, (blk_cell k7 8).trans rfl, (blk_cell k7 9).trans rfl, (blk_cell k7 10).trans rfl, (blk_cell k8 0).trans rfl, (blk_cell k8 1).trans rfl, (blk_cell k8 2).trans rfl, (blk_cell k8 3).trans rfl, (blk_cell k8 4).trans rfl, (blk_cell k8 5).trans rfl, (blk_cell k8 6).trans rfl, (blk_cell k8 7).trans rfl, (blk_cell k8 8).trans rfl, (blk_cell k8 9).trans rfl, (blk_cell k8 10).trans rfl, (blk_cell kn 0).trans rfl, (blk_cell kn 1).trans rfl, (blk_cell kn 2).trans rfl, (blk_cell kn 3).trans rfl, (blk_cell ks 2).trans rfl⟩ (fun hHeld => ?_)
        generalize wd.drew = w5 at k5 k6 k7 k8 kn ks hbd hHeld ⊢
        have HB5 := Lib.hid hbd
        have K55 := Lib.hid k5
        have K65 := Lib.hid k6
        have K75 := Lib.hid k7
        have K85 := Lib.hid k8
        have KN5 := Lib.hid kn
        have KS5 := Lib.hid ks
        clear k5 k6 k7 k8 kn ks hbd
        refine pure_ (i := 2) (N := some 39) (v := ?_) (a' := ?_) #[false, false, true, false, false, false, false, false, false, false, false, false, false, false, false, false, false, false, false, false, false, false, false, false, false, false, false, false, false, false, false, false, false, false, false, false, false, false] rfl rfl (by kernel_rfl) (fun _ _ _ h => h) (Or.inl ⟨by rfl, ?_⟩) ?_ ?_
        rotate_left
        · intro w'
          go_simp
          with_reducible rfl
        rotate_left
        · simp only [Act.put, List.setIfInBounds_toArray, List.set_cons_zero, List.set_cons_succ, i64_w, i32_w]
          rfl
        refine take_ (i := 0) (N := some 37) (v := ?_) (a' := ?_) #[true, false, true, false, false, false, false, false, false, false, false, false, false, false, false, false, false, false, false, false, false, false, false, false, false, false, false, false, false, false, false, false, false, false, false, false, false, false] rfl rfl (by kernel_rfl) (fun _ _ _ h => h) (Or.inl ⟨by rfl, ?_⟩) hHeld ?_ ?_
        rotate_left
        · rintro w' ⟨s0, s1, s2, s3, s4, s5, s6, s7, s8, s9, s10, s11, s12, s13, s14, s15, s16, s17, s18, s19, s20, s21, s22, s23, s24, s25, s26, s27, s28, s29, s30, s31, s32, s33, s34, s35, s36, s37, s38, s39, s40, s41, s42, s43, s44, s45, s46, s47, s48⟩
          go_simp
          with_reducible rfl
        rotate_left
        · simp only [Act.put, List.setIfInBounds_toArray, List.set_cons_zero, List.set_cons_succ, i64_w, i32_w]
          rfl
        refine take_ (i := 3) (N := some 40) (v := ?_) (a' := ?_) #[true, false, true, true, false, false, false, false, false, false, false, false, false, false, false, false, false, false, false, false, false, false, false, false, false, false, false, false, false, false, false, false, false, false, false, false, false, false] rfl rfl (by kernel_rfl) (fun _ _ _ h => h) (Or.inl ⟨by rfl, ?_⟩) hHeld ?_ ?_
        rotate_left
        · rintro w' ⟨s0, s1, s2, s3, s4, s5, s6, s7, s8, s9, s10, s11, s12, s13, s14, s15, s16, s17, s18, s19, s20, s21, s22, s23, s24, s25, s26, s27, s28, s29, s30, s31, s32, s33, s34, s35, s36, s37, s38, s39, s40, s41, s42, s43, s44, s45, s46, s47, s48⟩
          go_simp
          with_reducible rfl
        rotate_left
        · simp only [Act.put, List.setIfInBounds_toArray, List.set_cons_zero, List.set_cons_succ, i64_w, i32_w]
          rfl
        refine pure_ (i := 4) (N := some 41) (v := ?_) (a' := ?_) #[true, false, true, true, true, false, false, false, false, false, false, false, false, false, false, false, false, false, false, false, false, false, false, false, false, false, false, false, false, false, false, false, false, false, false, false, false, false] rfl rfl (by kernel_rfl) (fun _ _ _ h => h) (Or.inl ⟨by rfl, ?_⟩) ?_ ?_
        rotate_left
        · intro w'
          go_simp
          with_reducible rfl
        rotate_left
        · simp only [Act.put, List.setIfInBounds_toArray, List.set_cons_zero, List.set_cons_succ, i64_w, i32_w]
          rfl
        refine one_ (i := 1) (N := some 38) #[true, true, true, true, true, false, false, false, false, false, false, false, false, false, false, false, false, false, false, false, false, false, false, false, false, false, false, false, false, false, false, false, false, false, false, false, false, false] rfl rfl (by kernel_rfl) (by decide) (fun K hK => ?_)
        refine goes_ Tryd.func15 (by kernel_rfl) rfl #[.agg #[.int .u64 n0, .int .u64 x.f1, .int .u64 x.f2, .string x.f3, .string x.f4, .int .i64 x.f5, .int .i64 x.f6, .int .i64 x.f7, .slice A8 x.f8.length c8, .slice A9 x.f9.length c9, .slice A10 x.f10.length c10]] (by rfl) rfl rfl (by simp only [List.map_toArray, List.map_cons, List.map_nil]; rfl) ?_
        with_reducible refine (HA.out _ HB5.out).mono ?_
        rintro e w6 ⟨rfl, hb⟩
        refine ⟨_, rfl, ?_⟩
        have HB6 := Lib.hid (below_step HB5.out hb)
        have K56 := Lib.hid (block_below K55.out hb)
        have K66 := Lib.hid (block_below K65.out hb)
        have K76 := Lib.hid (block_below K75.out hb)
        have K86 := Lib.hid (block_below K85.out hb)
        have KN6 := Lib.hid (block_below KN5.out hb)
        have KS6 := Lib.hid (block_below KS5.out hb)
        clear hb
        refine hK.out _ _ ⟨(blk_cell K56.out 0).trans rfl, (blk_cell K56.out 1).trans rfl, (blk_cell K56.out 2).trans rfl, (blk_cell K56.out 3).trans rfl, (blk_cell K56.out 4).trans rfl, (blk_cell K56.out 5).trans rfl, (blk_cell K56.out 6).trans rfl, (blk_cell K56.out 7).trans rfl, (blk_cell K56.out 8).trans rfl, (blk_cell K56.out 9).trans rfl, (blk_cell K56.out 10).trans rfl, (blk_cell K66.out 0).trans rfl, (blk_cell K66.out 1).trans rfl, (blk_cell K66.out 2).trans rfl, (blk_cell K66.out 3).trans rfl, (blk_cell K66.out 4).trans rfl, (blk_cell K66.out 5).trans rfl, (blk_cell K66.out 6).trans rfl, (blk_cell K66.out 7).trans rfl, (blk_cell K66.out 8).trans rfl, (blk_cell K66.out 9).trans rfl, (blk_cell K66.out 10).trans rfl, (blk_cell K76.out 0).trans rfl, (blk_cell K76.out 1).trans rfl, (blk_cell K76.out 2).trans rfl, (blk_cell K76.out 3).trans rfl, (blk_cell K76.out 4).trans rfl, (blk_cell K76.out 5).trans rfl, (blk_cell K76.out 6).trans rfl, (blk_cell K76.out 7).trans rfl, (blk_cell K76.out 8).trans rfl, (blk_cell K76.out 9).trans rfl, (blk_cell K76.out 10).trans rfl, (blk_cell K86.out 0).trans rfl, (blk_cell K86.out 1).trans rfl, (blk_cell K86.out 2).trans rfl, (blk_cell K86.out 3).trans rfl, (blk_cell K86.out 4).trans rfl, (blk_cell K86.out 5).trans rfl, (blk_cell K86.out 6).trans rfl, (blk_cell K86.out 7).trans rfl, (blk_cell K86.out 8).trans rfl, (blk_cell K86.out 9).trans rfl, (blk_cell K86.out 10).trans rfl, (blk_cell KN6.out 0).trans rfl, (blk_cell KN6.out 1).trans rfl, (blk_cell KN6.out 2).trans rfl, (blk_cell KN6.out 3).trans rfl, (blk_cell KS6.out 2).trans rfl⟩ (fun hHeld => ?_)
        clear hK K
        refine norm_ (a' := ?_) ?_ ?_
        rotate_left
        · show Act.put _ (some 38) _ = _
          simp only [Act.put, List.setIfInBounds_toArray, List.set_cons_zero, List.set_cons_succ, i64_w, i32_w]
          rfl
        refine pure_ (i := 5) (N := some 42) (v := ?_) (a' := ?_) #[true, true, true, true, true, true, false, false, false, false, false, false, false, false, false, false, false, false, false, false, false, false, false, false, false, false, false, false, false, false, false, false, false, false, false, false, false, false] rfl rfl (by kernel_rfl) (fun _ _ _ h => h) (Or.inl ⟨by rfl, ?_⟩) ?_ ?_
        rotate_left
        · intro w'
          go_simp
          with_reducible rfl
        rotate_left
        · simp only [Act.put, List.setIfInBounds_toArray, List.set_cons_zero, List.set_cons_succ, i64_w, i32_w]
          rfl
        refine pure_ (i := 6) (N := some 43) (v := ?_) (a' := ?_) #[true, true, true, true, true, true, true, false, false, false, false, false, false, false, false, false, false, false, false, false, false, false, false, false, false, false, false, false, false, false, false, false, false, false, false, false, false, false] rfl rfl (by kernel_rfl) (fun _ _ _ h => h) (Or.inl ⟨by rfl, ?_⟩) ?_ ?_
        rotate_left
        · intro w'
          go_simp
          with_reducible rfl
        rotate_left
        · simp only [Act.put, List.setIfInBounds_toArray, List.set_cons_zero, List.set_cons_succ, i64_w, i32_w]
          rfl
        refine pure_ (i := 9) (N := some 46) (v := ?_) (a' := ?_) #[true, true, true, true, true, true, true, false, false, true, false, false, false, false, false, false, false, false, false, false, false, false, false, false, false, false, false, false, false, false, false, false, false, false, false, false, false, false] rfl rfl (by kernel_rfl) (fun _ _ _ h => h) (Or.inl ⟨by rfl, ?_⟩) ?_ ?_
        rotate_left
        · intro w'
          go_simp
          with_reducible rfl
        rotate_left
        · simp only [Act.put, List.setIfInBounds_toArray, List.set_cons_zero, List.set_cons_succ, i64_w, i32_w]
          rfl
        refine take_ (i := 7) (N := some 44) (v := ?_) (a' := ?_) #[true, true, true, true, true, true, true, true, false, true, false, false, false, false, false, false, false, false, false, false, false, false, false, false, false, false, false, false, false, false, false, false, false, false, false, false, false, false] rfl rfl (by kernel_rfl) (fun _ _ _ h => h) (Or.inl ⟨by rfl, ?_⟩) hHeld ?_ ?_
        rotate_left
        · rintro w' ⟨s0, s1, s2, s3, s4, s5, s6, s7, s8, s9, s10, s11, s12, s13, s14, s15, s16, s17, s18, s19, s20, s21, s22, s23, s24, s25, s26, s27, s28, s29, s30, s31, s32, s33, s34, s35, s36, s37, s38, s39, s40, s41, s42, s43, s44, s45, s46, s47, s48⟩
          go_simp
          with_reducible rfl
        rotate_left
        · simp only [Act.put, List.setIfInBounds_toArray, List.set_cons_zero, List.set_cons_succ, i64_w, i32_w]
          rfl
        refine take_ (i := 10) (N := some 47) (v := ?_) (a' := ?_) #[true, true, true, true, true, true, true, true, false, true, true, false, false, false, false, false, false, false, false, false, false, false, false, false, false, false, false, false, false, false, false, false, false, false, false, false, false, false] rfl rfl (by kernel_rfl) (fun _ _ _ h => h) (Or.inl ⟨by rfl, ?_⟩) hHeld ?_ ?_
        rotate_left
        · rintro w' ⟨s0, s1, s2, s3, s4, s5, s6, s7, s8, s9, s10, s11, s12, s13, s14, s15, s16, s17, s18, s19, s20, s21, s22, s23, s24, s25, s26, s27, s28, s29, s30, s31, s32, s33, s34, s35, s36, s37, s38, s39, s40, s41, s42, s43, s44, s45, s46, s47, s48⟩
          go_simp
          with_reducible rfl
        rotate_left
        · simp only [Act.put, List.setIfInBounds_toArray, List.set_cons_zero, List.set_cons_succ, i64_w, i32_w]
          rfl
        refine pure_ (i := 11) (N := some 48) (v := ?_) (a' := ?_) #[true, true, true, true, true, true, true, true, false, true, true, true, false, false, false, false, false, false, false, false, false, false, false, false, false, false, false, false, false, false, false, false, false, false, false, false, false, false] rfl rfl (by kernel_rfl) (fun _ _ _ h => h) (Or.inl ⟨by rfl, ?_⟩) ?_ ?_
        rotate_left
        · intro w'
          go_simp
          with_reducible rfl
        rotate_left
        · simp only [Act.put, List.setIfInBounds_toArray, List.set_cons_zero, List.set_cons_succ, i64_w, i32_w]
          rfl
        refine one_ (i := 8) (N := some 45) #[true, true, true, true, true, true, true, true, true, true, true, true, false, false, false, false, false, false, false, false, false, false, false, false, false, false, false, false, false, false, false, false, false, false, false, false, false, false] rfl rfl (by kernel_rfl) (by decide) (fun K hK => ?_)
        refine goes_ Tryd.func15 (by kernel_rfl) rfl #[.agg #[.int .u64 x.f0, .int .u64 n1, .int .u64 x.f2, .string x.f3, .string x.f4, .int .i64 x.f5, .int .i64 x.f6, .int .i64 x.f7, .slice A8 x.f8.length c8, .slice A9 x.f9.length c9, .slice A10 x.f10.length c10]] (by rfl) rfl rfl (by simp only [List.map_toArray, List.map_cons, List.map_nil]; rfl) ?_
        with_reducible refine (HBB.out _ HB6.out).mono ?_
        rintro e w7 ⟨rfl, hb⟩
        refine ⟨_, rfl, ?_⟩
        have HB7 := Lib.hid (below_step HB6.out hb)
        have K57 := Lib.hid (block_below K56.out hb)
        have K67 := Lib.hid (block_below K66.out hb)
        have K77 := Lib.hid (block_below K76.out hb)
        have K87 := Lib.hid (block_below K86.out hb)
        have KN7 := Lib.hid (block_below KN6.out hb)
        have KS7 := Lib.hid (block_below KS6.out hb)
        clear hb
        refine hK.out _ _ ⟨(blk_cell K57.out 0).trans rfl, (blk_cell K57.out 1).trans rfl, (blk_cell K57.out 2).trans rfl, (blk_cell K57.out 3).trans rfl, (blk_cell K57.out 4).trans rfl, (blk_cell K57.out 5).trans rfl, (blk_cell K57.out 6).trans rfl, (blk_cell K57.out 7).trans rfl, (blk_cell K57.out 8).trans rfl, (blk_cell K57.out 9).trans rfl, (blk_cell K57.out 10).trans rfl, (blk_cell K67.out 0).trans rfl, (blk_cell K67.out 1).trans rfl, (blk_cell K67.out 2).trans rfl, (blk_cell K67.out 3).trans rfl, (blk_cell K67.out 4).trans rfl, (blk_cell K67.out 5).trans rfl, (blk_cell K67.out 6).trans rfl, (blk_cell K67.out 7).trans rfl, (blk_cell K67.out 8).trans rfl, (blk_cell K67.out 9).trans rfl, (blk_cell K67.out 10).trans rfl, (blk_cell K77.out 0).trans rfl, (blk_cell K77.out 1).trans rfl, (blk_cell K77.out 2).trans rfl, (blk_cell K77.out 3).trans rfl, (blk_cell K77.out 4).trans rfl, (blk_cell K77.out 5).trans rfl, (blk_cell K77.out 6).trans rfl, (blk_cell K77.out 7).trans rfl, (blk_cell K77.out 8).trans rfl, (blk_cell K77.out 9).trans rfl, (blk_cell K77.out 10).trans rfl, (blk_cell K87.out 0).trans rfl, (blk_cell K87.out 1).trans rfl, (blk_cell K87.out 2).trans rfl, (blk_cell K87.out 3).trans rfl, (blk_cell K87.out 4).trans rfl, (blk_cell K87.out 5).trans rfl, (blk_cell K87.out 6).trans rfl, (blk_cell K87.out 7).trans rfl, (blk_cell K87.out 8).trans rfl, (blk_cell K87.out 9).trans rfl, (blk_cell K87.out 10).trans rfl, (blk_cell KN7.out 0).trans rfl, (blk_cell KN7.out 1).trans rfl, (blk_cell KN7.out 2).trans rfl, (blk_cell KN7.out 3).trans rfl, (blk_cell KS7.out 2).trans rfl⟩ (fun hHeld => ?_)
        clear hK K
        refine norm_ (a' := ?_) ?_ ?_
        rotate_left
        · show Act.put _ (some 45) _ = _
          simp only [Act.put, List.setIfInBounds_toArray, List.set_cons_zero, List.set_cons_succ, i64_w, i32_w]
          rfl
        refine pure_ (i := 12) (N := some 49) (v := ?_) (a' := ?_) #[true, true, true, true, true, true, true, true, true, true, true, true, true, false, false, false, false, false, false, false, false, false, false, false, false, false, false, false, false, false, false, false, false, false, false, false, false, false] rfl rfl (by kernel_rfl) (fun _ _ _ h => h) (Or.inl ⟨by rfl, ?_⟩) ?_ ?_
        rotate_left
        · intro w'
          go_simp
          with_reducible rfl
        rotate_left
        · simp only [Act.put, List.setIfInBounds_toArray, List.set_cons_zero, List.set_cons_succ, i64_w, i32_w]
          rfl
        refine pure_ (i := 13) (N := some 50) (v := ?_) (a' := ?_) #[true, true, true, true, true, true, true, true, true, true, true, true, true, true, false, false, false, false, false, false, false, false, false, false, false, false, false, false, false, false, false, false, false, false, false, false, false, false] rfl rfl (by kernel_rfl) (fun _ _ _ h => h) (Or.inl ⟨by rfl, ?_⟩) ?_ ?_
        rotate_left
        · intro w'
          go_simp
          with_reducible rfl
        rotate_left
        · simp only [Act.put, List.setIfInBounds_toArray, List.set_cons_zero, List.set_cons_succ, i64_w, i32_w]
          rfl
        refine pure_ (i := 15) (N := some 52) (v := ?_) (a' := ?_) #[true, true, true, true, true, true, true, true, true, true, true, true, true, true, false, true, false, false, false, false, false, false, false, false, false, false, false, false, false, false, false, false, false, false, false, false, false, false] rfl rfl (by kernel_rfl) (fun _ _ _ h => h) (Or.inl ⟨by rfl, ?_⟩) ?_ ?_
        rotate_left
        · intro w'
          go_simp
          with_reducible rfl
        rotate_left
        · simp only [Act.put, List.setIfInBounds_toArray, List.set_cons_zero, List.set_cons_succ, i64_w, i32_w]
          rfl
        refine take_ (i := 14) (N := some 51) (v := ?_) (a' := ?_) #[true, true, true, true, true, true, true, true, true, true, true, true, true, true, true, true, false, false, false, false, false, false, false, false, false, false, false, false, false, false, false, false, false, false, false, false, false, false] rfl rfl (by kernel_rfl) (fun _ _ _ h => h) (Or.inl ⟨by rfl, ?_⟩) hHeld ?_ ?_
        rotate_left
        · rintro w' ⟨s0, s1, s2, s3, s4, s5, s6, s7, s8, s9, s10, s11, s12, s13, s14, s15, s16, s17, s18, s19, s20, s21, s22, s23, s24, s25, s26, s27, s28, s29, s30, s31, s32, s33, s34, s35, s36, s37, s38, s39, s40, s41, s42, s43, s44, s45, s46, s47, s48⟩
          go_simp
          with_reducible rfl
        rotate_left
        · simp only [Act.put, List.setIfInBounds_toArray, List.set_cons_zero, List.set_cons_succ, i64_w, i32_w]
          rfl
        refine take_ (i := 16) (N := some 53) (v := ?_) (a' := ?_) #[true, true, true, true, true, true, true, true, true, true, true, true, true, true, true, true, true, false, false, false, false, false, false, false, false, false, false, false, false, false, false, false, false, false, false, false, false, false] rfl rfl (by kernel_rfl) (fun _ _ _ h => h) (Or.inl ⟨by rfl, ?_⟩) hHeld ?_ ?_
        rotate_left
        · rintro w' ⟨s0, s1, s2, s3, s4, s5, s6, s7, s8, s9, s10, s11, s12, s13, s14, s15, s16, s17, s18, s19, s20, s21, s22, s23, s24, s25, s26, s27, s28, s29, s30, s31, s32, s33, s34, s35, s36, s37, s38, s39, s40, s41, s42, s43, s44, s45, s46, s47, s48⟩
          go_simp
          with_reducible rfl
        rotate_left
        · simp only [Act.put, List.setIfInBounds_toArray, List.set_cons_zero, List.set_cons_succ, i64_w, i32_w]
          rfl
        refine pure_ (i := 17) (N := some 54) (v := ?_) (a' := ?_) #[true, true, true, true, true, true, true, true, true, true, true, true, true, true, true, true, true, true, false, false, false, false, false, false, false, false, false, false, false, false, false, false, false, false, false, false, false, false] rfl rfl (by kernel_rfl) (fun _ _ _ h => h) (Or.inl ⟨by rfl, ?_⟩) ?_ ?_
        rotate_left
        · intro w'
          go_simp
          with_reducible rfl
        rotate_left
        · simp only [Act.put, List.setIfInBounds_toArray, List.set_cons_zero, List.set_cons_succ, i64_w, i32_w]
          rfl
        refine pure_ (i := 18) (N := some 55) (v := ?_) (a' := ?_) #[true, true, true, true, true, true, true, true, true, true, true, true, true, true, true, true, true, true, true, false, false, false, false, false, false, false, false, false, false, false, false, false, false, false, false, false, false, false] rfl rfl (by kernel_rfl) (fun _ _ _ h => h) (Or.inl ⟨by rfl, ?_⟩) ?_ ?_
        rotate_left
        · intro w'
          go_simp
          with_reducible rfl
        rotate_left
        · simp only [Act.put, List.setIfInBounds_toArray, List.set_cons_zero, List.set_cons_succ, i64_w, i32_w]
          rfl
        refine pure_ (i := 19) (N := some 56) (v := ?_) (a' := ?_) #[true, true, true, true, true, true, true, true, true, true, true, true, true, true, true, true, true, true, true, true, false, false, false, false, false, false, false, false, false, false, false, false, false, false, false, false, false, false] rfl rfl (by kernel_rfl) (fun _ _ _ h => h) (Or.inl ⟨by rfl, ?_⟩) ?_ ?_
        rotate_left
        · intro w'
          go_simp
          with_reducible rfl
        rotate_left
        · simp only [Act.put, List.setIfInBounds_toArray, List.set_cons_zero, List.set_cons_succ, i64_w, i32_w]
          rfl
        refine pure_ (i := 20) (N := some 57) (v := ?_) (a' := ?_) #[true, true, true, true, true, true, true, true, true, true, true, true, true, true, true, true, true, true, true, true, true, false, false, false, false, false, false, false, false, false, false, false, false, false, false, false, false, false] rfl rfl (by kernel_rfl) (fun _ _ _ h => h) (Or.inl ⟨by rfl, ?_⟩) ?_ ?_
        rotate_left
        · intro w'
          go_simp
          with_reducible rfl
        rotate_left
        · simp only [Act.put, List.setIfInBounds_toArray, List.set_cons_zero, List.set_cons_succ, i64_w, i32_w]
          rfl
        refine pure_ (i := 21) (N := some 58) (v := ?_) (a' := ?_) #[true, true, true, true, true, true, true, true, true, true, true, true, true, true, true, true, true, true, true, true, true, true, false, false, false, false, false, false, false, false, false, false, false, false, false, false, false, false] rfl rfl (by kernel_rfl) (fun _ _ _ h => h) (Or.inl ⟨by rfl, ?_⟩) ?_ ?_
        rotate_left
        · intro w'
          go_simp
          with_reducible rfl
        rotate_left
        · simp only [Act.put, List.setIfInBounds_toArray, List.set_cons_zero, List.set_cons_succ, i64_w, i32_w]
          rfl
        refine pure_ (i := 24) (N := some 61) (v := ?_) (a' := ?_) #[true, true, true, true, true, true, true, true, true, true, true, true, true, true, true, true, true, true, true, true, true, true, false, false, true, false, false, false, false, false, false, false, false, false, false, false, false, false] rfl rfl (by kernel_rfl) (fun _ _ _ h => h) (Or.inl ⟨by rfl, ?_⟩) ?_ ?_
        rotate_left
        · intro w'
          go_simp
          with_reducible rfl
        rotate_left
        · simp only [Act.put, List.setIfInBounds_toArray, List.set_cons_zero, List.set_cons_succ, i64_w, i32_w]
          rfl
        refine take_ (i := 22) (N := some 59) (v := ?_) (a' := ?_) #[true, true, true, true, true, true, true, true, true, true, true, true, true, true, true, true, true, true, true, true, true, true, true, false, true, false, false, false, false, false, false, false, false, false, false, false, false, false] rfl rfl (by kernel_rfl) (fun _ _ _ h => h) (Or.inl ⟨by rfl, ?_⟩) hHeld ?_ ?_
        rotate_left
        · rintro w' ⟨s0, s1, s2, s3, s4, s5, s6, s7, s8, s9, s10, s11, s12, s13, s14, s15, s16, s17, s18, s19, s20, s21, s22, s23, s24, s25, s26, s27, s28, s29, s30, s31, s32, s33, s34, s35, s36, s37, s38, s39, s40, s41, s42, s43, s44, s45, s46, s47, s48⟩
          go_simp
          with_reducible rfl
        rotate_left
        · simp only [Act.put, List.setIfInBounds_toArray, List.set_cons_zero, List.set_cons_succ, i64_w, i32_w]
          rfl
        refine take_ (i := 25) (N := some 62) (v := ?_) (a' := ?_) #[true, true, true, true, true, true, true, true, true, true, true, true, true, true, true, true, true, true, true, true, true, true, true, false, true, true, false, false, false, false, false, false, false, false, false, false, false, false] rfl rfl (by kernel_rfl) (fun _ _ _ h => h) (Or.inl ⟨by rfl, ?_⟩) hHeld ?_ ?_
        rotate_left
        · rintro w' ⟨s0, s1, s2, s3, s4, s5, s6, s7, s8, s9, s10, s11, s12, s13, s14, s15, s16, s17, s18, s19, s20, s21, s22, s23, s24, s25, s26, s27, s28, s29, s30, s31, s32, s33, s34, s35, s36, s37, s38, s39, s40, s41, s42, s43, s44, s45, s46, s47, s48⟩
          go_simp
          with_reducible rfl
        rotate_left
        · simp only [Act.put, List.setIfInBounds_toArray, List.set_cons_zero, List.set_cons_succ, i64_w, i32_w]
          rfl
        refine pure_ (i := 26) (N := some 63) (v := ?_) (a' := ?_) #[true, true, true, true, true, true, true, true, true, true, true, true, true, true, true, true, true, true, true, true, true, true, true, false, true, true, true, false, false, false, false, false, false, false, false, false, false, false] rfl rfl (by kernel_rfl) (fun _ _ _ h => h) (Or.inl ⟨by rfl, ?_⟩) ?_ ?_
        rotate_left
        · intro w'
          go_simp
          with_reducible rfl
        rotate_left
        · simp only [Act.put, List.setIfInBounds_toArray, List.set_cons_zero, List.set_cons_succ, i64_w, i32_w]
          rfl
        refine one_ (i := 23) (N := some 60) #[true, true, true, true, true, true, true, true, true, true, true, true, true, true, true, true, true, true, true, true, true, true, true, true, true, true, true, false, false, false, false, false, false, false, false, false, false, false] rfl rfl (by kernel_rfl) (by decide) (fun K hK => ?_)
        refine goes_ Tryd.func15 (by kernel_rfl) rfl #[.agg #[.int .u64 x.f0, .int .u64 x.f1, .int .u64 x.f2, .string x.f3, .string x.f4, .int .i64 m2, .int .i64 x.f6, .int .i64 x.f7, .slice A8 x.f8.length c8, .slice A9 x.f9.length c9, .slice A10 x.f10.length c10]] (by rfl) rfl rfl (by simp only [List.map_toArray, List.map_cons, List.map_nil]; rfl) ?_
        with_reducible refine (HC.out _ HB7.out).mono ?_
        rintro e w8 ⟨rfl, hb⟩
        refine ⟨_, rfl, ?_⟩
        have HB8 := Lib.hid (below_step HB7.out hb)
        have K58 := Lib.hid (block_below K57.out hb)
        have K68 := Lib.hid (block_below K67.out hb)
        have K78 := Lib.hid (block_below K77.out hb)
        have K88 := Lib.hid (block_below K87.out hb)
        have KN8 := Lib.hid (block_below KN7.out hb)
        have KS8 := Lib.hid (block_below KS7.out hb)
        clear hb
        refine hK.out _ _ ⟨(blk_cell K58.out 0).trans rfl, (blk_cell K58.out 1).trans rfl, (blk_cell K58.out 2).trans rfl, (blk_cell K58.out 3).trans rfl, (blk_cell K58.out 4).trans rfl, (blk_cell K58.out 5).trans rfl, (blk_cell K58.out 6).trans rfl, (blk_cell K58.out 7).trans rfl, (blk_cell K58.out 8).trans rfl, (blk_cell K58.out 9).trans rfl, (blk_cell K58.out 10).trans rfl, (blk_cell K68.out 0).trans rfl, (blk_cell K68.out 1).trans rfl, (blk_cell K68.out 2).trans rfl, (blk_cell K68.out 3).trans rfl, (blk_cell K68.out 4).trans rfl, (blk_cell K68.out 5).trans rfl, (blk_cell K68.out 6).trans rfl, (blk_cell K68.out 7).trans rfl, (blk_cell K68.out 8).trans rfl, (blk_cell K68.out 9).trans rfl, (blk_cell K68.out 10).trans rfl, (blk_cell K78.out 0).trans rfl, (blk_cell K78.out 1).trans rfl, (blk_cell K78.out 2).trans rfl, (blk_cell K78.out 3).trans rfl, (blk_cell K78.out 4).trans rfl, (blk_cell K78.out 5).trans rfl, (blk_cell K78.out 6).trans rfl, (blk_cell K78.out 7).trans rfl, (blk_cell K78.out 8).trans rfl, (blk_cell K78.out 9).trans rfl, (blk_cell K78.out 10).trans rfl, (blk_cell K88.out 0).trans rfl, (blk_cell K88.out 1).trans rfl, (blk_cell K88.out 2).trans rfl, (blk_cell K88.out 3).trans rfl, (blk_cell K88.out 4).trans rfl, (blk_cell K88.out 5).trans rfl, (blk_cell K88.out 6).trans rfl, (blk_cell K88.out 7).trans rfl, (blk_cell K88.out 8).trans rfl, (blk_cell K88.out 9).trans rfl, (blk_cell K88.out 10).trans rfl, (blk_cell KN8.out 0).trans rfl, (blk_cell KN8.out 1).trans rfl, (blk_cell KN8.out 2).trans rfl, (blk_cell KN8.out 3).trans rfl, (blk_cell KS8.out 2).trans rfl⟩ (fun hHeld => ?_)
        clear hK K
        refine norm_ (a' := ?_) ?_ ?_
        rotate_left
        · show Act.put _ (some 60) _ = _
          simp only [Act.put, List.setIfInBounds_toArray, List.set_cons_zero, List.set_cons_succ, i64_w, i32_w]
          rfl
        refine pure_ (i := 27) (N := some 64) (v := ?_) (a' := ?_) #[true, true, true, true, true, true, true, true, true, true, true, true, true, true, true, true, true, true, true, true, true, true, true, true, true, true, true, true, false, false, false, false, false, false, false, false, false, false] rfl rfl (by kernel_rfl) (fun _ _ _ h => h) (Or.inl ⟨by rfl, ?_⟩) ?_ ?_
        rotate_left
        · intro w'
          go_simp
          with_reducible rfl
        rotate_left
        · simp only [Act.put, List.setIfInBounds_toArray, List.set_cons_zero, List.set_cons_succ, i64_w, i32_w]
          rfl
        refine pure_ (i := 28) (N := some 65) (v := ?_) (a' := ?_) #[true, true, true, true, true, true, true, true, true, true, true, true, true, true, true, true, true, true, true, true, true, true, true, true, true, true, true, true, true, false, false, false, false, false, false, false, false, false] rfl rfl (by kernel_rfl) (fun _ _ _ h => h) (Or.inl ⟨by rfl, ?_⟩) ?_ ?_
        rotate_left
        · intro w'
          go_simp
          with_reducible rfl
        rotate_left
        · simp only [Act.put, List.setIfInBounds_toArray, List.set_cons_zero, List.set_cons_succ, i64_w, i32_w]
          rfl
        refine pure_ (i := 29) (N := some 66) (v := ?_) (a' := ?_) #[true, true, true, true, true, true, true, true, true, true, true, true, true, true, true, true, true, true, true, true, true, true, true, true, true, true, true, true, true, true, false, false, false, false, false, false, false, false] rfl rfl (by kernel_rfl) (fun _ _ _ h => h) (Or.inl ⟨by rfl, ?_⟩) ?_ ?_
        rotate_left
        · intro w'
          go_simp
          with_reducible rfl
        rotate_left
        · simp only [Act.put, List.setIfInBounds_toArray, List.set_cons_zero, List.set_cons_succ, i64_w, i32_w]
          rfl
        refine pure_ (i := 32) (N := some 69) (v := ?_) (a' := ?_) #[true, true, true, true, true, true, true, true, true, true, true, true, true, true, true, true, true, true, true, true, true, true, true, true, true, true, true, true, true, true, false, false, true, false, false, false, false, false] rfl rfl (by kernel_rfl) (fun _ _ _ h => h) (Or.inl ⟨by rfl, ?_⟩) ?_ ?_
        rotate_left
        · intro w'
          go_simp
          with_reducible rfl
        rotate_left
        · simp only [Act.put, List.setIfInBounds_toArray, List.set_cons_zero, List.set_cons_succ, i64_w, i32_w]
          rfl
        refine take_ (i := 30) (N := some 67) (v := ?_) (a' := ?_) #[true, true, true, true, true, true, true, true, true, true, true, true, true, true, true, true, true, true, true, true, true, true, true, true, true, true, true, true, true, true, true, false, true, false, false, false, false, false] rfl rfl (by kernel_rfl) (fun _ _ _ h => h) (Or.inl ⟨by rfl, ?_⟩) hHeld ?_ ?_
        rotate_left
        · rintro w' ⟨s0, s1, s2, s3, s4, s5, s6, s7, s8, s9, s10, s11, s12, s13, s14, s15, s16, s17, s18, s19, s20, s21, s22, s23, s24, s25, s26, s27, s28, s29, s30, s31, s32, s33, s34, s35, s36, s37, s38, s39, s40, s41, s42, s43, s44, s45, s46, s47, s48⟩
          go_simp
          with_reducible rfl
        rotate_left
        · simp only [Act.put, List.setIfInBounds_toArray, List.set_cons_zero, List.set_cons_succ, i64_w, i32_w]
          rfl
        refine take_ (i := 33) (N := some 70) (v := ?_) (a' := ?_) #[true, true, true, true, true, true, true, true, true, true, true, true, true, true, true, true, true, true, true, true, true, true, true, true, true, true, true, true, true, true, true, false, true, true, false, false, false, false] rfl rfl (by kernel_rfl) (fun _ _ _ h => h) (Or.inl ⟨by rfl, ?_⟩) hHeld ?_ ?_
        rotate_left
        · rintro w' ⟨s0, s1, s2, s3, s4, s5, s6, s7, s8, s9, s10, s11, s12, s13, s14, s15, s16, s17, s18, s19, s20, s21, s22, s23, s24, s25, s26, s27, s28, s29, s30, s31, s32, s33, s34, s35, s36, s37, s38, s39, s40, s41, s42, s43, s44, s45, s46, s47, s48⟩
          go_simp
          with_reducible rfl
        rotate_left
        · simp only [Act.put, List.setIfInBounds_toArray, List.set_cons_zero, List.set_cons_succ, i64_w, i32_w]
          rfl
        refine pure_ (i := 34) (N := some 71) (v := ?_) (a' := ?_) #[true, true, true, true, true, true, true, true, true, true, true, true, true, true, true, true, true, true, true, true, true, true, true, true, true, true, true, true, true, true, true, false, true, true, true, false, false, false] rfl rfl (by kernel_rfl) (fun _ _ _ h => h) (Or.inl ⟨by rfl, ?_⟩) ?_ ?_
        rotate_left
        · intro w'
          go_simp
          with_reducible rfl
        rotate_left
        · simp only [Act.put, List.setIfInBounds_toArray, List.set_cons_zero, List.set_cons_succ, i64_w, i32_w]
          rfl
        refine one_ (i := 31) (N := some 68) #[true, true, true, true, true, true, true, true, true, true, true, true, true, true, true, true, true, true, true, true, true, true, true, true, true, true, true, true, true, true, true, true, true, true, true, false, false, false] rfl rfl (by kernel_rfl) (by decide) (fun K hK => ?_)
        refine goes_ Tryd.func15 (by kernel_rfl) rfl #[.agg #[.int .u64 x.f0, .int .u64 x.f1, .int .u64 x.f2, .string x.f3, .string x.f4, .int .i64 x.f5, .int .i64 m3, .int .i64 x.f7, .slice A8 x.f8.length c8, .slice A9 x.f9.length c9, .slice A10 x.f10.length c10]] (by rfl) rfl rfl (by simp only [List.map_toArray, List.map_cons, List.map_nil]; rfl) ?_
        with_reducible refine (HD.out _ HB8.out).mono ?_
        rintro e w9 ⟨rfl, hb⟩
        refine ⟨_, rfl, ?_⟩
        have HB9 := Lib.hid (below_step HB8.out hb)
        have K59 := Lib.hid (block_below K58.out hb)
        have K69 := Lib.hid (block_below K68.out hb)
        have K79 := Lib.hid (block_below K78.out hb)
        have K89 := Lib.hid (block_below K88.out hb)
        have KN9 := Lib.hid (block_below KN8.out hb)
        have KS9 := Lib.hid (block_below KS8.out hb)
        clear hb
        refine hK.out _ _ ⟨(blk_cell K59.out 0).trans rfl, (blk_cell K59.out 1).trans rfl, (blk_cell K59.out 2).trans rfl, (blk_cell K59.out 3).trans rfl, (blk_cell K59.out 4).trans rfl, (blk_cell K59.out 5).trans rfl, (blk_cell K59.out 6).trans rfl, (blk_cell K59.out 7).trans rfl, (blk_cell K59.out 8).trans rfl, (blk_cell K59.out 9).trans rfl, (blk_cell K59.out 10).trans rfl, (blk_cell K69.out 0).trans rfl, (blk_cell K69.out 1).trans rfl, (blk_cell K69.out 2).trans rfl, (blk_cell K69.out 3).trans rfl, (blk_cell K69.out 4).trans rfl, (blk_cell K69.out 5).trans rfl, (blk_cell K69.out 6).trans rfl, (blk_cell K69.out 7).trans rfl, (blk_cell K69.out 8).trans rfl, (blk_cell K69.out 9).trans rfl, (blk_cell K69.out 10).trans rfl, (blk_cell K79.out 0).trans rfl, (blk_cell K79.out 1).trans rfl, (blk_cell K79.out 2).trans rfl, (blk_cell K79.out 3).trans rfl, (blk_cell K79.out 4).trans rfl, (blk_cell K79.out 5).trans rfl, (blk_cell K79.out 6).trans rfl, (blk_cell K79.out 7).trans rfl, (blk_cell K79.out 8).trans rfl, (blk_cell K79.out 9).trans rfl, (blk_cell K79.out 10).trans rfl, (blk_cell K89.out 0).trans rfl, (blk_cell K89.out 1).trans rfl, (blk_cell K89.out 2).trans rfl, (blk_cell K89.out 3).trans rfl, (blk_cell K89.out 4).trans rfl, (blk_cell K89.out 5).trans rfl, (blk_cell K89.out 6).trans rfl, (blk_cell K89.out 7).trans rfl, (blk_cell K89.out 8).trans rfl, (blk_cell K89.out 9).trans rfl, (blk_cell K89.out 10).trans rfl, (blk_cell KN9.out 0).trans rfl, (blk_cell KN9.out 1).trans rfl, (blk_cell KN9.out 2).trans rfl, (blk_cell KN9.out 3).trans rfl, (blk_cell KS9.out 2).trans rfl⟩ (fun hHeld => ?_)
        clear hK K
        refine norm_ (a' := ?_) ?_ ?_
        rotate_left
        · show Act.put _ (some 68) _ = _
          simp only [Act.put, List.setIfInBounds_toArray, List.set_cons_zero, List.set_cons_succ, i64_w, i32_w]
          rfl
        refine pure_ (i := 35) (N := some 72) (v := ?_) (a' := ?_) #[true, true, true, true, true, true, true, true, true, true, true, true, true, true, true, true, true, true, true, true, true, true, true, true, true, true, true, true, true, true, true, true, true, true, true, true, false, false] rfl rfl (by kernel_rfl) (fun _ _ _ h => h) (Or.inl ⟨by rfl, ?_⟩) ?_ ?_
        rotate_left
        · intro w'
          go_simp
          with_reducible rfl
        rotate_left
        · simp only [Act.put, List.setIfInBounds_toArray, List.set_cons_zero, List.set_cons_succ, i64_w, i32_w]
          rfl
        refine pure_ (i := 36) (N := some 73) (v := ?_) (a' := ?_) #[true, true, true, true, true, true, true, true, true, true, true, true, true, true, true, true, true, true, true, true, true, true, true, true, true, true, true, true, true, true, true, true, true, true, true, true, true, false] rfl rfl (by kernel_rfl) (fun _ _ _ h => h) (Or.inl ⟨by rfl, ?_⟩) ?_ ?_
        rotate_left
        · intro w'
          go_simp
          with_reducible rfl
        rotate_left
        · simp only [Act.put, List.setIfInBounds_toArray, List.set_cons_zero, List.set_cons_succ, i64_w, i32_w]
          rfl
        refine pure_ (i := 37) (N := some 4) (v := ?_) (a' := ?_) #[true, true, true, true, true, true, true, true, true, true, true, true, true, true, true, true, true, true, true, true, true, true, true, true, true, true, true, true, true, true, true, true, true, true, true, true, true, true] rfl rfl (by kernel_rfl) (fun _ _ _ h => h) (Or.inl ⟨by rfl, ?_⟩) ?_ ?_
        rotate_left
        · intro w'
          go_simp
          with_reducible rfl
        rotate_left
        · simp only [Act.put, List.setIfInBounds_toArray, List.set_cons_zero, List.set_cons_succ, i64_w, i32_w]
          rfl
        refine done_ (by kernel_rfl) ?_
        go_wp2
        go_ret
        exact ⟨rfl, HB9.out⟩
      | false =>
        refine start_ (n := 38) (S := fun w' => w'.cell? ⟨w3.heap.size, 0, none⟩ = some (.int .u64 n0) ∧ w'.cell? ⟨w3.heap.size, 1, none⟩ = some (.int .u64 x.f1) ∧ w'.cell? ⟨w3.heap.size, 2, none⟩ = some (.int .u64 x.f2) ∧ w'.cell? ⟨w3.heap.size, 3, none⟩ = some (.string x.f3) ∧ w'.cell? ⟨w3.heap.size, 4, none⟩ = some (.string x.f4) ∧ w'.cell? ⟨w3.heap.size, 5, none⟩ = some (.int .i64 x.f5) ∧ w'.cell? ⟨w3.heap.size, 6, none⟩ = some (.int .i64 x.f6) ∧ w'.cell? ⟨w3.heap.size, 7, none⟩ = some (.int .i64 x.f7) ∧ w'.cell? ⟨w3.heap.size, 8, none⟩ = some (.slice A8 x.f8.length c8) ∧ w'.cell? ⟨w3.heap.size, 9, none⟩ = some (.slice A9 x.f9.length c9) ∧ w'.cell? ⟨w3.heap.size, 10, none⟩ = some (.slice A10 x.f10.length c10) ∧ w'.cell? ⟨w3.heap.size + 1, 0, none⟩ = some (.int .u64 x.f0) ∧ w'.cell? ⟨w3.heap.size + 1, 1, none⟩ = some (.int .u64 n1) ∧ w'.cell? ⟨w3.heap.size + 1, 2, none⟩ = some (.int .u64 x.f2) ∧ w'.cell? ⟨w3.heap.size + 1, 3, none⟩ = some (.string x.f3) ∧ w'.cell? ⟨w3.heap.size + 1, 4, none⟩ = some (.string x.f4) ∧ w'.cell? ⟨w3.heap.size + 1, 5, none⟩ = some (.int .i64 x.f5) ∧ w'.cell? ⟨w3.heap.size + 1, 6, none⟩ = some (.int .i64 x.f6) ∧ w'.cell? ⟨w3.heap.size + 1, 7, none⟩ = some (.int .i64 x.f7) ∧ w'.cell? ⟨w3.heap.size + 1, 8, none⟩ = some (.slice A8 x.f8.length c8) ∧ w'.cell? ⟨w3.heap.size + 1, 9, none⟩ = some (.slice A9 x.f9.length c9) ∧ w'.cell? ⟨w3.heap.size + 1, 10, none⟩ = some (.slice A10 x.f10.length c10) ∧ w'.cell? ⟨w3.heap.size + 1 + 1, 0, none⟩ = some (.int .u64 x.f0) ∧ w'.cell? ⟨w3.heap.size + 1 + 1, 1, none⟩ = some (.int .u64 x.f1) ∧ w'.cell? ⟨w3.heap.size + 1 + 1, 2, none⟩ = some (.int .u64 x.f2) ∧ w'.cell? ⟨w3.heap.size + 1 + 1, 3, none⟩ = some (.string x.f3) ∧ w'.cell? ⟨w3.heap.size + 1 + 1, 4, none⟩ = some (.string x.f4) ∧ w'.cell? ⟨w3.heap.size + 1 + 1, 5, none⟩ = some (.int .i64 m2) ∧ w'.cell? ⟨w3.heap.size + 1 + 1, 6, none⟩ = some (.int .i64 x.f6) ∧ w'.cell? ⟨w3.heap.size + 1 + 1, 7, none⟩ = some (.int .i64 x.f7) ∧ w'.cell? ⟨w3.heap.size + 1 + 1, 8, none⟩ = some (.slice A8 x.f8.length c8) ∧ w'.cell? ⟨w3.heap.size + 1 + 1, 9, none⟩ = some (.slice A9 x.f9.length c9) ∧ w'.cell? ⟨w3.heap.size + 1 + 1, 10, none⟩ = some (.slice A10 x.f10.length c10) ∧ w'.cell? ⟨w3.heap.size + 1 + 1 + 1, 0, none⟩ = some (.int .u64 x.f0) ∧ w'.cell? ⟨w3.heap.size + 1 + 1 + 1, 1, none⟩ = some (.int .u64 x.f1) ∧ w'.cell? ⟨w3.heap.size + 1 + 1 + 1, 2, none⟩ = some (.int .u64 x.f2) ∧ w'.cell? ⟨w3.heap.size + 1 + 1 + 1, 3, none⟩ = some (.string x.f3) ∧ w'.cell? ⟨w3.heap.size + 1 + 1 + 1, 4, none⟩ = some (.string x.f4) ∧ w'.cell? ⟨w3.heap.size + 1 + 1 + 1, 5, none⟩ = some (.int .i64 x.f5) ∧ w'.cell? ⟨w3.heap.size + 1 + 1 + 1, 6, none⟩ = some (.int .i64 m3) ∧ w'.cell? ⟨w3.heap.size + 1 + 1 + 1, 7, none⟩ = some (.int .i64 x.f7) ∧ w'.cell? ⟨w3.heap.size + 1 + 1 + 1, 8, none⟩ = some (.slice A8 x.f8.length c8) ∧ w'.cell? ⟨w3.heap.size + 1 + 1 + 1, 9, none⟩ = some (.slice A9 x.f9.length c9) ∧ w'.cell? ⟨w3.heap.size + 1 + 1 + 1, 10, none⟩ = some (.slice A10 x.f10.length c10) ∧ w'.cell? ⟨W.heap.size + 1, 0, none⟩ = some (.int .u64 n0) ∧ w'.cell? ⟨W.heap.size + 1, 1, none⟩ = some (.int .u64 n1) ∧ w'.cell? ⟨W.heap.size + 1, 2, none⟩ = some (.int .u64 n2) ∧ w'.cell? ⟨W.heap.size + 1, 3, none⟩ = some (.int .u64 n3) ∧ w'.cell? ⟨W.heap.size, 2, none⟩ = some (.int .u64 x.f2)) (ds := []) #[false, false, false, false, false, false, false, false, false, false, false, false, false, false, false, false, false, false, false, false, false, false, false, false, false, false, false, false, false, false, false, false, false, false, false, false, false, false] (by kernel_rfl) rfl rfl ⟨(blk_cell k5 0).trans rfl, (blk_cell k5 1).trans rfl, (blk_cell k5 2).trans rfl, (blk_cell k5 3).trans rfl, (blk_cell k5 4).trans rfl, (blk_cell k5 5).trans rfl, (blk_cell k5 6).trans rfl, (blk_cell k5 7).trans rfl, (blk_cell k5 8).trans rfl, (blk_cell k5 9).trans rfl, (blk_cell k5 10).trans rfl, (blk_cell k6 0).trans rfl, (blk_cell k6 1).trans rfl, (blk_cell k6 2).trans rfl, (blk_cell k6 3).trans rfl, (blk_cell k6 4).trans rfl, (blk_cell k6 5).trans rfl, (blk_cell k6 6).trans rfl, (blk_cell k6 7).trans rfl, (blk_cell k6 8).trans rfl, (blk_cell k6 9).trans rfl, (blk_cell k6 10).trans rfl, (blk_cell k7 0).trans rfl, (blk_cell k7 1).trans rfl, (blk_cell k7 2).trans rfl, (blk_cell k7 3).trans rfl, (blk_cell k7 4).trans rfl, (blk_cell k7 5).trans rfl, (blk_cell k7 6).trans rfl, (blk_cell k7 7).trans rfl, (blk_cell k7 8).trans rfl, (blk_cell k7 9).trans rfl, (blk_cell k7 10).trans rfl, (blk_cell k8 0).trans rfl, (blk_cell k8 1).trans rfl, (blk_cell k8 2).trans rfl, (blk_cell k8 3).trans rfl, (blk_cell k8 4).trans rfl, (blk_cell k8 5).trans rfl, (blk_cell k8 6).trans rfl, (blk_cell k8 7).trans rfl, (blk_cell k8 8).trans rfl, (blk_cell k8 9).trans rfl, (blk_cell k8 10).trans rfl, (blk_cell kn 0).trans rfl, (blk_cell kn 1).trans rfl, (blk_cell kn 2).trans rfl, (blk_cell kn 3).trans rfl, (blk_cell ks 2).trans rfl⟩ (fun hHeld => ?_)
        generalize wd.drew = w5 at k5 k6 k7 k8 kn ks hbd hHeld ⊢
        have HB5 := Lib.hid hbd
        have K55 := Lib.hid k5
        have K65 := Lib.hid k6
        have K75 := Lib.hid k7
        have K85 := Lib.hid k8
        have KN5 := Lib.hid kn
        have KS5 := Lib.hid ks
        clear k5 k6 k7 k8 kn ks hbd
        refine pure_ (i := 2) (N := some 39) (v := ?_) (a' := ?_) #[false, false, true, false, false, false, false, false, false, false, false, false, false, false, false, false, false, false, false, false, false, false, false, false, false, false, false, false, false, false, false, false, false, false, false, false, false, false] rfl rfl (by kernel_rfl) (fun _ _ _ h => h) (Or.inl ⟨by rfl, ?_⟩) ?_ ?_
        rotate_left
        · intro w'
          go_simp
          with_reducible rfl
        rotate_left
        · simp only [Act.put, List.setIfInBounds_toArray, List.set_cons_zero, List.set_cons_succ, i64_w, i32_w]
          rfl
        refine take_ (i := 0) (N := some 37) (v := ?_) (a' := ?_) #[true, false, true, false, false, false, false, false, false, false, false, false, false, false, false, false, false, false, false, false, false, false, false, false, false, false, false, false, false, false, false, false, false, false, false, false, false, false] rfl rfl (by kernel_rfl) (fun _ _ _ h => h) (Or.inl ⟨by rfl, ?_⟩) hHeld ?_ ?_
        rotate_left
        · rintro w' ⟨s0, s1, s2, s3, s4, s5, s6, s7, s8, s9, s10, s11, s12, s13, s14, s15, s16, s17, s18, s19, s20, s21, s22, s23, s24, s25, s26, s27, s28, s29, s30, s31, s32, s33, s34, s35, s36, s37, s38, s39, s40, s41, s42, s43, s44, s45, s46, s47, s48⟩
          go_simp
          with_reducible rfl
        rotate_left
        · simp only [Act.put, List.setIfInBounds_toArray, List.set_cons_zero, List.set_cons_succ, i64_w, i32_w]
          rfl
        refine take_ (i := 3) (N := some 40) (v := ?_) (a' := ?_) #[true, false, true, true, false, false, false, false, false, false, false, false, false, false, false, false, false, false, false, false, false, false, false, false, false, false, false, false, false, false, false, false, false, false, false, false, false, false] rfl rfl (by kernel_rfl) (fun _ _ _ h => h) (Or.inl ⟨by rfl, ?_⟩) hHeld ?_ ?_
        rotate_left
        · rintro w' ⟨s0, s1, s2, s3, s4, s5, s6, s7, s8, s9, s10, s11, s12, s13, s14, s15, s16, s17, s18, s19, s20, s21, s22, s23, s24, s25, s26, s27, s28, s29, s30, s31, s32, s33, s34, s35, s36, s37, s38, s39, s40, s41, s42, s43, s44, s45, s46, s47, s48⟩
          go_simp
          with_reducible rfl
        rotate_left
        · simp only [Act.put, List.setIfInBounds_toArray, List.set_cons_zero, List.set_cons_succ, i64_w, i32_w]
          rfl
        refine pure_ (i := 4) (N := some 41) (v := ?_) (a' := ?_) #[true, false, true, true, true, false, false, false, false, false, false, false, false, false, false, false, false, false, false, false, false, false, false, false, false, false, false, false, false, false, false, false, false, false, false, false, false, false] rfl rfl (by kernel_rfl) (fun _ _ _ h => h) (Or.inl ⟨by rfl, ?_⟩) ?_ ?_
        rotate_left
        · intro w'
          go_simp
          with_reducible rfl
        rotate_left
        · simp only [Act.put, List.setIfInBounds_toArray, List.set_cons_zero, List.set_cons_succ, i64_w, i32_w]
          rfl
        refine one_ (i := 1) (N := some 38) #[true, true, true, true, true, false, false, false, false, false, false, false, false, false, false, false, false, false, false, false, false, false, false, false, false, false, false, false, false, false, false, false, false, false, false, false, false, false] rfl rfl (by kernel_rfl) (by decide) (fun K hK => ?_)
        refine goes_ Tryd.func15 (by kernel_rfl) rfl #[.agg #[.int .u64 n0, .int .u64 x.f1, .int .u64 x.f2, .string x.f3, .string x.f4, .int .i64 x.f5, .int .i64 x.f6, .int .i64 x.f7, .slice A8 x.f8.length c8, .slice A9 x.f9.length c9, .slice A10 x.f10.length c10]] (by rfl) rfl rfl (by simp only [List.map_toArray, List.map_cons, List.map_nil]; rfl) ?_
        with_reducible refine (HA.out _ HB5.out).mono ?_
        rintro e w6 ⟨rfl, hb⟩
        refine ⟨_, rfl, ?_⟩
        have HB6 := Lib.hid (below_step HB5.out hb)
        have K56 := Lib.hid (block_below K55.out hb)
        have K66 := Lib.hid (block_below K65.out hb)
        have K76 := Lib.hid (block_below K75.out hb)
        have K86 := Lib.hid (block_below K85.out hb)
        have KN6 := Lib.hid (block_below KN5.out hb)
        have KS6 := Lib.hid (block_below KS5.out hb)
        clear hb
        refine hK.out _ _ ⟨(blk_cell K56.out 0).trans rfl, (blk_cell K56.out 1).trans rfl, (blk_cell K56.out 2).trans rfl, (blk_cell K56.out 3).trans rfl, (blk_cell K56.out 4).trans rfl, (blk_cell K56.out 5).trans rfl, (blk_cell K56.out 6).trans rfl, (blk_cell K56.out 7).trans rfl, (blk_cell K56.out 8).trans rfl, (blk_cell K56.out 9).trans rfl, (blk_cell K56.out 10).trans rfl, (blk_cell K66.out 0).trans rfl, (blk_cell K66.out 1).trans rfl, (blk_cell K66.out 2).trans rfl, (blk_cell K66.out 3).trans rfl, (blk_cell K66.out 4).trans rfl, (blk_cell K66.out 5).trans rfl, (blk_cell K66.out 6).trans rfl, (blk_cell K66.out 7).trans rfl, (blk_cell K66.out 8).trans rfl, (blk_cell K66.out 9).trans rfl, (blk_cell K66.out 10).trans rfl, (blk_cell K76.out 0).trans rfl, (blk_cell K76.out 1).trans rfl, (blk_cell K76.out 2).trans rfl, (blk_cell K76.out 3).trans rfl, (blk_cell K76.out 4).trans rfl, (blk_cell K76.out 5).trans rfl, (blk_cell K76.out 6).trans rfl, (blk_cell K76.out 7).trans rfl, (blk_cell K76.out 8).trans rfl, (blk_cell K76.out 9).trans rfl, (blk_cell K76.out 10).trans rfl, (blk_cell K86.out 0).trans rfl, (blk_cell K86.out 1).trans rfl, (blk_cell K86.out 2).trans rfl, (blk_cell K86.out 3).trans rfl, (blk_cell K86.out 4).trans rfl, (blk_cell K86.out 5).trans rfl, (blk_cell K86.out 6).trans rfl, (blk_cell K86.out 7).trans rfl, (blk_cell K86.out 8).trans rfl, (blk_cell K86.out 9).trans rfl, (blk_cell K86.out 10).trans rfl, (blk_cell KN6.out 0).trans rfl, (blk_cell KN6.out 1).trans rfl, (blk_cell KN6.out 2).trans rfl, (blk_cell KN6.out 3).trans rfl, (blk_cell KS6.out 2).trans rfl⟩ (fun hHeld => ?_)
        clear hK K
        refine norm_ (a' := ?_) ?_ ?_
        rotate_left
        · show Act.put _ (some 38) _ = _
          simp only [Act.put, List.setIfInBounds_toArray, List.set_cons_zero, List.set_cons_succ, i64_w, i32_w]
          rfl
        refine pure_ (i := 5) (N := some 42) (v := ?_) (a' := ?_) #[true, true, true, true, true, true, false, false, false, false, false, false, false, false, false, false, false, false, false, false, false, false, false, false, false, false, false, false, false, false, false, false, false, false, false, false, false, false] rfl rfl (by kernel_rfl) (fun _ _ _ h => h) (Or.inl ⟨by rfl, ?_⟩) ?_ ?_
        rotate_left
        · intro w'
          go_simp
          with_reducible rfl
        rotate_left
        · simp only [Act.put, List.setIfInBounds_toArray, List.set_cons_zero, List.set_cons_succ, i64_w, i32_w]
          rfl
        refine pure_ (i := 6) (N := some 43) (v := ?_) (a' := ?_) #[true, true, true, true, true, true, true, false, false, false, false, false, false, false, false, false, false, false, false, false, false, false, false, false, false, false, false, false, false, false, false, false, false, false, false, false, false, false] rfl rfl (by kernel_rfl) (fun _ _ _ h => h) (Or.inl ⟨by rfl, ?_⟩) ?_ ?_
        rotate_left
        · intro w'
          go_simp
          with_reducible rfl
        rotate_left
        · simp only [Act.put, List.setIfInBounds_toArray, List.set_cons_zero, List.set_cons_succ, i64_w, i32_w]
          rfl
        refine pure_ (i := 9) (N := some 46) (v := ?_) (a' := ?_) #[true, true, true, true, true, true, true, false, false, true, false, false, false, false, false, false, false, false, false, false, false, false, false, false, false, false, false, false, false, false, false, false, false, false, false, false, false, false] rfl rfl (by kernel_rfl) (fun _ _ _ h => h) (Or.inl ⟨by rfl, ?_⟩) ?_ ?_
        rotate_left
        · intro w'
          go_simp
          with_reducible rfl
        rotate_left
        · simp only [Act.put, List.setIfInBounds_toArray, List.set_cons_zero, List.set_cons_succ, i64_w, i32_w]
          rfl
        refine take_ (i := 7) (N := some 44) (v := ?_) (a' := ?_) #[true, true, true, true, true, true, true, true, false, true, false, false, false, false, false, false, false, false, false, false, false, false, false, false, false, false, false, false, false, false, false, false, false, false, false, false, false, false] rfl rfl (by kernel_rfl) (fun _ _ _ h => h) (Or.inl ⟨by rfl, ?_⟩) hHeld ?_ ?_
        rotate_left
        · rintro w' ⟨s0, s1, s2, s3, s4, s5, s6, s7, s8, s9, s10, s11, s12, s13, s14, s15, s16, s17, s18, s19, s20, s21, s22, s23, s24, s25, s26, s27, s28, s29, s30, s31, s32, s33, s34, s35, s36, s37, s38, s39, s40, s41, s42, s43, s44, s45, s46, s47, s48⟩
          go_simp
          with_reducible rfl
        rotate_left
        · simp only [Act.put, List.setIfInBounds_toArray, List.set_cons_zero, List.set_cons_succ, i64_w, i32_w]
          rfl
        refine take_ (i := 10) (N := some 47) (v := ?_) (a' := ?_) #[true, true, true, true, true, true, true, true, false, true, true, false, false, false, false, false, false, false, false, false, false, false, false, false, false, false, false, false, false, false, false, false, false, false, false, false, false, false] rfl rfl (by kernel_rfl) (fun _ _ _ h => h) (Or.inl ⟨by rfl, ?_⟩) hHeld ?_ ?_
        rotate_left
        · rintro w' ⟨s0, s1, s2, s3, s4, s5, s6, s7, s8, s9, s10, s11, s12, s13, s14, s15, s16, s17, s18, s19, s20, s21, s22, s23, s24, s25, s26, s27, s28, s29, s30, s31, s32, s33, s34, s35, s36, s37, s38, s39, s40, s41, s42, s43, s44, s45, s46, s47, s48⟩
          go_simp
          with_reducible rfl
        rotate_left
        · simp only [Act.put, List.setIfInBounds_toArray, List.set_cons_zero, List.set_cons_succ, i64_w, i32_w]
          rfl
        refine pure_ (i := 11) (N := some 48) (v := ?_) (a' := ?_) #[true, true, true, true, true, true, true, true, false, true, true, true, false, false, false, false, false, false, false, false, false, false, false, false, false, false, false, false, false, false, false, false, false, false, false, false, false, false] rfl rfl (by kernel_rfl) (fun _ _ _ h => h) (Or.inl ⟨by rfl, ?_⟩) ?_ ?_
        rotate_left
        · intro w'
          go_simp
          with_reducible rfl
        rotate_left
        · simp only [Act.put, List.setIfInBounds_toArray, List.set_cons_zero, List.set_cons_succ, i64_w, i32_w]
          rfl
        refine one_ (i := 8) (N := some 45) #[true, true, true, true, true, true, true, true, true, true, true, true, false, false, false, false, false, false, false, false, false, false, false, false, false, false, false, false, false, false, false, false, false, false, false, false, false, false] rfl rfl (by kernel_rfl) (by decide) (fun K hK => ?_)
        refine goes_ Tryd.func15 (by kernel_rfl) rfl #[.agg #[.int .u64 x.f0, .int .u64 n1, .int .u64 x.f2, .string x.f3, .string x.f4, .int .i64 x.f5, .int .i64 x.f6, .int .i64 x.f7, .slice A8 x.f8.length c8, .slice A9 x.f9.length c9, .slice A10 x.f10.length c10]] (by rfl) rfl rfl (by simp only [List.map_toArray, List.map_cons, List.map_nil]; rfl) ?_
        with_reducible refine (HBB.out _ HB6.out).mono ?_
        rintro e w7 ⟨rfl, hb⟩
        refine ⟨_, rfl, ?_⟩
        have HB7 := Lib.hid (below_step HB6.out hb)
        have K57 := Lib.hid (block_below K56.out hb)
        have K67 := Lib.hid (block_below K66.out hb)
        have K77 := Lib.hid (block_below K76.out hb)
        have K87 := Lib.hid (block_below K86.out hb)
        have KN7 := Lib.hid (block_below KN6.out hb)
        have KS7 := Lib.hid (block_below KS6.out hb)
        clear hb
        refine hK.out _ _ ⟨(blk_cell K57.out 0).trans rfl, (blk_cell K57.out 1).trans rfl, (blk_cell K57.out 2).trans rfl, (blk_cell K57.out 3).trans rfl, (blk_cell K57.out 4).trans rfl, (blk_cell K57.out 5).trans rfl, (blk_cell K57.out 6).trans rfl, (blk_cell K57.out 7).trans rfl, (blk_cell K57.out 8).trans rfl, (blk_cell K57.out 9).trans rfl, (blk_cell K57.out 10).trans rfl, (blk_cell K67.out 0).trans rfl, (blk_cell K67.out 1).trans rfl, (blk_cell K67.out 2).trans rfl, (blk_cell K67.out 3).trans rfl, (blk_cell K67.out 4).trans rfl, (blk_cell K67.out 5).trans rfl, (blk_cell K67.out 6).trans rfl, (blk_cell K67.out 7).trans rfl, (blk_cell K67.out 8).trans rfl, (blk_cell K67.out 9).trans rfl, (blk_cell K67.out 10).trans rfl, (blk_cell K77.out 0).trans rfl, (blk_cell K77.out 1).trans rfl, (blk_cell K77.out 2).trans rfl, (blk_cell K77.out 3).trans rfl, (blk_cell K77.out 4).trans rfl, (blk_cell K77.out 5).trans rfl, (blk_cell K77.out 6).trans rfl, (blk_cell K77.out 7).trans rfl, (blk_cell K77.out 8).trans rfl, (blk_cell K77.out 9).trans rfl, (blk_cell K77.out 10).trans rfl, (blk_cell K87.out 0).trans rfl, (blk_cell K87.out 1).trans rfl, (blk_cell K87.out 2).trans rfl, (blk_cell K87.out 3).trans rfl, (blk_cell K87.out 4).trans rfl, (blk_cell K87.out 5).trans rfl, (blk_cell K87.out 6).trans rfl, (blk_cell K87.out 7).trans rfl, (blk_cell K87.out 8).trans rfl, (blk_cell K87.out 9).trans rfl, (blk_cell K87.out 10).trans rfl, (blk_cell KN7.out 0).trans rfl, (blk_cell KN7.out 1).trans rfl, (blk_cell KN7.out 2).trans rfl, (blk_cell KN7.out 3).trans rfl, (blk_cell KS7.out 2).trans rfl⟩ (fun hHeld => ?_)
        clear hK K
        refine norm_ (a' := ?_) ?_ ?_
        rotate_left
        · show Act.put _ (some 45) _ = _
          simp only [Act.put, List.setIfInBounds_toArray, List.set_cons_zero, List.set_cons_succ, i64_w, i32_w]
          rfl
        refine pure_ (i := 12) (N := some 49) (v := ?_) (a' := ?_) #[true, true, true, true, true, true, true, true, true, true, true, true, true, false, false, false, false, false, false, false, false, false, false, false, false, false, false, false, false, false, false, false, false, false, false, false, false, false] rfl rfl (by kernel_rfl) (fun _ _ _ h => h) (Or.inl ⟨by rfl, ?_⟩) ?_ ?_
        rotate_left
        · intro w'
          go_simp
          with_reducible rfl
        rotate_left
        · simp only [Act.put, List.setIfInBounds_toArray, List.set_cons_zero, List.set_cons_succ, i64_w, i32_w]
          rfl
        refine pure_ (i := 13) (N := some 50) (v := undef) (a' := ?_) #[true, true, true, true, true, true, true, true, true, true, true, true, true, true, false, false, false, false, false, false, false, false, false, false, false, false, false, false, false, false, false, false, false, false, false, false, false, false] rfl rfl (by kernel_rfl) (fun _ _ _ h => h) (Or.inr ⟨by rfl, rfl⟩) ?_ ?_
        rotate_left
        · simp only [Act.put, List.setIfInBounds_toArray, List.set_cons_zero, List.set_cons_succ, i64_w, i32_w]
          rfl
        refine pure_ (i := 14) (N := some 51) (v := undef) (a' := ?_) #[true, true, true, true, true, true, true, true, true, true, true, true, true, true, true, false, false, false, false, false, false, false, false, false, false, false, false, false, false, false, false, false, false, false, false, false, false, false] rfl rfl (by kernel_rfl) (fun _ _ _ h => h) (Or.inr ⟨by rfl, rfl⟩) ?_ ?_
        rotate_left
        · simp only [Act.put, List.setIfInBounds_toArray, List.set_cons_zero, List.set_cons_succ, i64_w, i32_w]
          rfl
        refine pure_ (i := 15) (N := some 52) (v := undef) (a' := ?_) #[true, true, true, true, true, true, true, true, true, true, true, true, true, true, true, true, false, false, false, false, false, false, false, false, false, false, false, false, false, false, false, false, false, false, false, false, false, false] rfl rfl (by kernel_rfl) (fun _ _ _ h => h) (Or.inr ⟨by rfl, rfl⟩) ?_ ?_
        rotate_left
        · simp only [Act.put, List.setIfInBounds_toArray, List.set_cons_zero, List.set_cons_succ, i64_w, i32_w]
          rfl
        refine pure_ (i := 16) (N := some 53) (v := undef) (a' := ?_) #[true, true, true, true, true, true, true, true, true, true, true, true, true, true, true, true, true, false, false, false, false, false, false, false, false, false, false, false, false, false, false, false, false, false, false, false, false, false] rfl rfl (by kernel_rfl) (fun _ _ _ h => h) (Or.inr ⟨by rfl, rfl⟩) ?_ ?_
        rotate_left
        · simp only [Act.put, List.setIfInBounds_toArray, List.set_cons_zero, List.set_cons_succ, i64_w, i32_w]
          rfl
        refine pure_ (i := 17) (N := some 54) (v := undef) (a' := ?_) #[true, true, true, true, true, true, true, true, true, true, true, true, true, true, true, true, true, true, false, false, false, false, false, false, false, false, false, false, false, false, false, false, false, false, false, false, false, false] rfl rfl (by kernel_rfl) (fun _ _ _ h => h) (Or.inr ⟨by rfl, rfl⟩) ?_ ?_
        rotate_left
        · simp only [Act.put, List.setIfInBounds_toArray, List.set_cons_zero, List.set_cons_succ, i64_w, i32_w]
          rfl
        refine pure_ (i := 18) (N := some 55) (v := ?_) (a' := ?_) #[true, true, true, true, true, true, true, true, true, true, true, true, true, true, true, true, true, true, true, false, false, false, false, false, false, false, false, false, false, false, false, false, false, false, false, false, false, false] rfl rfl (by kernel_rfl) (fun _ _ _ h => h) (Or.inl ⟨by rfl, ?_⟩) ?_ ?_
        rotate_left
        · intro w'
          go_simp
          with_reducible rfl
        rotate_left
        · simp only [Act.put, List.setIfInBounds_toArray, List.set_cons_zero, List.set_cons_succ, i64_w, i32_w]
          rfl
        refine pure_ (i := 19) (N := some 56) (v := ?_) (a' := ?_) #[true, true, true, true, true, true, true, true, true, true, true, true, true, true, true, true, true, true, true, true, false, false, false, false, false, false, false, false, false, false, false, false, false, false, false, false, false, false] rfl rfl (by kernel_rfl) (fun _ _ _ h => h) (Or.inl ⟨by rfl, ?_⟩) ?_ ?_
        rotate_left
        · intro w'
          go_simp
          with_reducible rfl
        rotate_left
        · simp only [Act.put, List.setIfInBounds_toArray, List.set_cons_zero, List.set_cons_succ, i64_w, i32_w]
          rfl
        refine pure_ (i := 20) (N := some 57) (v := ?_) (a' := ?_) #[true, true, true, true, true, true, true, true, true, true, true, true, true, true, true, true, true, true, true, true, true, false, false, false, false, false, false, false, false, false, false, false, false, false, false, false, false, false] rfl rfl (by kernel_rfl) (fun _ _ _ h => h) (Or.inl ⟨by rfl, ?_⟩) ?_ ?_
        rotate_left
        · intro w'
          go_simp
          with_reducible rfl
        rotate_left
        · simp only [Act.put, List.setIfInBounds_toArray, List.set_cons_zero, List.set_cons_succ, i64_w, i32_w]
          rfl
        refine pure_ (i := 21) (N := some 58) (v := ?_) (a' := ?_) #[true, true, true, true, true, true, true, true, true, true, true, true, true, true, true, true, true, true, true, true, true, true, false, false, false, false, false, false, false, false, false, false, false, false, false, false, false, false] rfl rfl (by kernel_rfl) (fun _ _ _ h => h) (Or.inl ⟨by rfl, ?_⟩) ?_ ?_
        rotate_left
        · intro w'
          go_simp
          with_reducible rfl
        rotate_left
        · simp only [Act.put, List.setIfInBounds_toArray, List.set_cons_zero, List.set_cons_succ, i64_w, i32_w]
          rfl
        refine pure_ (i := 24) (N := some 61) (v := ?_) (a' := ?_) #[true, true, true, true, true, true, true, true, true, true, true, true, true, true, true, true, true, true, true, true, true, true, false, false, true, false, false, false, false, false, false, false, false, false, false, false, false, false] rfl rfl (by kernel_rfl) (fun _ _ _ h => h) (Or.inl ⟨by rfl, ?_⟩) ?_ ?_
        rotate_left
        · intro w'
          go_simp
          with_reducible rfl
        rotate_left
        · simp only [Act.put, List.setIfInBounds_toArray, List.set_cons_zero, List.set_cons_succ, i64_w, i32_w]
          rfl
        refine take_ (i := 22) (N := some 59) (v := ?_) (a' := ?_) #[true, true, true, true, true, true, true, true, true, true, true, true, true, true, true, true, true, true, true, true, true, true, true, false, true, false, false, false, false, false, false, false, false, false, false, false, false, false] rfl rfl (by kernel_rfl) (fun _ _ _ h => h) (Or.inl ⟨by rfl, ?_⟩) hHeld ?_ ?_
        rotate_left
        · rintro w' ⟨s0, s1, s2, s3, s4, s5, s6, s7, s8, s9, s10, s11, s12, s13, s14, s15, s16, s17, s18, s19, s20, s21, s22, s23, s24, s25, s26, s27, s28, s29, s30, s31, s32, s33, s34, s35, s36, s37, s38, s39, s40, s41, s42, s43, s44, s45, s46, s47, s48⟩
          go_simp
          with_reducible rfl
        rotate_left
        · simp only [Act.put, List.setIfInBounds_toArray, List.set_cons_zero, List.set_cons_succ, i64_w, i32_w]
          rfl
        refine take_ (i := 25) (N := some 62) (v := ?_) (a' := ?_) #[true, true, true, true, true, true, true, true, true, true, true, true, true, true, true, true, true, true, true, true, true, true, true, false, true, true, false, false, false, false, false, false, false, false, false, false, false, false] rfl rfl (by kernel_rfl) (fun _ _ _ h => h) (Or.inl ⟨by rfl, ?_⟩) hHeld ?_ ?_
        rotate_left
        · rintro w' ⟨s0, s1, s2, s3, s4, s5, s6, s7, s8, s9, s10, s11, s12, s13, s14, s15, s16, s17, s18, s19, s20, s21, s22, s23, s24, s25, s26, s27, s28, s29, s30, s31, s32, s33, s34, s35, s36, s37, s38, s39, s40, s41, s42, s43, s44, s45, s46, s47, s48⟩
          go_simp
          with_reducible rfl
        rotate_left
        · simp only [Act.put, List.setIfInBounds_toArray, List.set_cons_zero, List.set_cons_succ, i64_w, i32_w]
          rfl
        refine pure_ (i := 26) (N := some 63) (v := ?_) (a' := ?_) #[true, true, true, true, true, true, true, true, true, true, true, true, true, true, true, true, true, true, true, true, true, true, true, false, true, true, true, false, false, false, false, false, false, false, false, false, false, false] rfl rfl (by kernel_rfl) (fun _ _ _ h => h) (Or.inl ⟨by rfl, ?_⟩) ?_ ?_
        rotate_left
        · intro w'
          go_simp
          with_reducible rfl
        rotate_left
        · simp only [Act.put, List.setIfInBounds_toArray, List.set_cons_zero, List.set_cons_succ, i64_w, i32_w]
          rfl
        refine one_ (i := 23) (N := some 60) #[true, true, true, true, true, true, true, true, true, true, true, true, true, true, true, true, true, true, true, true, true, true, true, true, true, true, true, false, false, false, false, false, false, false, false, false, false, false] rfl rfl (by kernel_rfl) (by decide) (fun K hK => ?_)
        refine goes_ Tryd.func15 (by kernel_rfl) rfl #[.agg #[.int .u64 x.f0, .int .u64 x.f1, .int .u64 x.f2, .string x.f3, .string x.f4, .int .i64 m2, .int .i64 x.f6, .int .i64 x.f7, .slice A8 x.f8.length c8, .slice A9 x.f9.length c9, .slice A10 x.f10.length c10]] (by rfl) rfl rfl (by simp only [List.map_toArray, List.map_cons, List.map_nil]; rfl) ?_
        with_reducible refine (HC.out _ HB7.out).mono ?_
        rintro e w8 ⟨rfl, hb⟩
        refine ⟨_, rfl, ?_⟩
        have HB8 := Lib.hid (below_step HB7.out hb)
        have K58 := Lib.hid (block_below K57.out hb)
        have K68 := Lib.hid (block_below K67.out hb)
        have K78 := Lib.hid (block_below K77.out hb)
        have K88 := Lib.hid (block_below K87.out hb)
        have KN8 := Lib.hid (block_below KN7.out hb)
        have KS8 := Lib.hid (block_below KS7.out hb)
        clear hb
        refine hK.out _ _ ⟨(blk_cell K58.out 0).trans rfl, (blk_cell K58.out 1).trans rfl, (blk_cell K58.out 2).trans rfl, (blk_cell K58.out 3).trans rfl, (blk_cell K58.out 4).trans rfl, (blk_cell K58.out 5).trans rfl, (blk_cell K58.out 6).trans rfl, (blk_cell K58.out 7).trans rfl, (blk_cell K58.out 8).trans rfl, (blk_cell K58.out 9).trans rfl, (blk_cell K58.out 10).trans rfl, (blk_cell K68.out 0).trans rfl, (blk_cell K68.out 1).trans rfl, (blk_cell K68.out 2).trans rfl, (blk_cell K68.out 3).trans rfl, (blk_cell K68.out 4).trans rfl, (blk_cell K68.out 5).trans rfl, (blk_cell K68.out 6).trans rfl, (blk_cell K68.out 7).trans rfl, (blk_cell K68.out 8).trans rfl, (blk_cell K68.out 9).trans rfl, (blk_cell K68.out 10).trans rfl, (blk_cell K78.out 0).trans rfl, (blk_cell K78.out 1).trans rfl, (blk_cell K78.out 2).trans rfl, (blk_cell K78.out 3).trans rfl, (blk_cell K78.out 4).trans rfl, (blk_cell K78.out 5).trans rfl, (blk_cell K78.out 6).trans rfl, (blk_cell K78.out 7).trans rfl, (blk_cell K78.out 8).trans rfl, (blk_cell K78.out 9).trans rfl, (blk_cell K78.out 10).trans rfl, (blk_cell K88.out 0).trans rfl, (blk_cell K88.out 1).trans rfl, (blk_cell K88.out 2).trans rfl, (blk_cell K88.out 3).trans rfl, (blk_cell K88.out 4).trans rfl, (blk_cell K88.out 5).trans rfl, (blk_cell K88.out 6).trans rfl, (blk_cell K88.out 7).trans rfl, (blk_cell K88.out 8).trans rfl, (blk_cell K88.out 9).trans rfl, (blk_cell K88.out 10).trans rfl, (blk_cell KN8.out 0).trans rfl, (blk_cell KN8.out 1).trans rfl, (blk_cell KN8.out 2).trans rfl, (blk_cell KN8.out 3).trans rfl, (blk_cell KS8.out 2).trans rfl⟩ (fun hHeld => ?_)
        clear hK K
        refine norm_ (a' := ?_) ?_ ?_
        rotate_left
        · show Act.put _ (some 60) _ = _
          simp only [Act.put, List.setIfInBounds_toArray, List.set_cons_zero, List.set_cons_succ, i64_w, i32_w]
          rfl
        refine pure_ (i := 27) (N := some 64) (v := ?_) (a' := ?_) #[true, true, true, true, true, true, true, true, true, true, true, true, true, true, true, true, true, true, true, true, true, true, true, true, true, true, true, true, false, false, false, false, false, false, false, false, false, false] rfl rfl (by kernel_rfl) (fun _ _ _ h => h) (Or.inl ⟨by rfl, ?_⟩) ?_ ?_
        rotate_left
        · intro w'
          go_simp
          with_reducible rfl
        rotate_left
        · simp only [Act.put, List.setIfInBounds_toArray, List.set_cons_zero, List.set_cons_succ, i64_w, i32_w]
          rfl
        refine pure_ (i := 28) (N := some 65) (v := ?_) (a' := ?_) #[true, true, true, true, true, true, true, true, true, true, true, true, true, true, true, true, true, true, true, true, true, true, true, true, true, true, true, true, true, false, false, false, false, false, false, false, false, false] rfl rfl (by kernel_rfl) (fun _ _ _ h => h) (Or.inl ⟨by rfl, ?_⟩) ?_ ?_
        rotate_left
        · intro w'
          go_simp
          with_reducible rfl
        rotate_left
        · simp only [Act.put, List.setIfInBounds_toArray, List.set_cons_zero, List.set_cons_succ, i64_w, i32_w]
          rfl
        refine pure_ (i := 29) (N := some 66) (v := ?_) (a' := ?_) #[true, true, true, true, true, true, true, true, true, true, true, true, true, true, true, true, true, true, true, true, true, true, true, true, true, true, true, true, true, true, false, false, false, false, false, false, false, false] rfl rfl (by kernel_rfl) (fun _ _ _ h => h) (Or.inl ⟨by rfl, ?_⟩) ?_ ?_
        rotate_left
        · intro w'
          go_simp
          with_reducible rfl
        rotate_left
        · simp only [Act.put, List.setIfInBounds_toArray, List.set_cons_zero, List.set_cons_succ, i64_w, i32_w]
          rfl
        refine pure_ (i := 32) (N := some 69) (v := ?_) (a' := ?_) #[true, true, true, true, true, true, true, true, true, true, true, true, true, true, true, true, true, true, true, true, true, true, true, true, true, true, true, true, true, true, false, false, true, false, false, false, false, false] rfl rfl (by kernel_rfl) (fun _ _ _ h => h) (Or.inl ⟨by rfl, ?_⟩) ?_ ?_
        rotate_left
        · intro w'
          go_simp
          with_reducible rfl
        rotate_left
        · simp only [Act.put, List.setIfInBounds_toArray, List.set_cons_zero, List.set_cons_succ, i64_w, i32_w]
          rfl
        refine take_ (i := 30) (N := some 67) (v := ?_) (a' := ?_) #[true, true, true, true, true, true, true, true, true, true, true, true, true, true, true, true, true, true, true, true, true, true, true, true, true, true, true, true, true, true, true, false, true, false, false, false, false, false] rfl rfl (by kernel_rfl) (fun _ _ _ h => h) (Or.inl ⟨by rfl, ?_⟩) hHeld ?_ ?_
        rotate_left
        · rintro w' ⟨s0, s1, s2, s3, s4, s5, s6, s7, s8, s9, s10, s11, s12, s13, s14, s15, s16, s17, s18, s19, s20, s21, s22, s23, s24, s25, s26, s27, s28, s29, s30, s31, s32, s33, s34, s35, s36, s37, s38, s39, s40, s41, s42, s43, s44, s45, s46, s47, s48⟩
          go_simp
          with_reducible rfl
        rotate_left
        · simp only [Act.put, List.setIfInBounds_toArray, List.set_cons_zero, List.set_cons_succ, i64_w, i32_w]
          rfl
        refine take_ (i := 33) (N := some 70) (v := ?_) (a' := ?_) #[true, true, true, true, true, true, true, true, true, true, true, true, true, true, true, true, true, true, true, true, true, true, true, true, true, true, true, true, true, true, true, false, true, true, false, false, false, false] rfl rfl (by kernel_rfl) (fun _ _ _ h => h) (Or.inl ⟨by rfl, ?_⟩) hHeld ?_ ?_
        rotate_left
        · rintro w' ⟨s0, s1, s2, s3, s4, s5, s6, s7, s8, s9, s10, s11, s12, s13, s14, s15, s16, s17, s18, s19, s20, s21, s22, s23, s24, s25, s26, s27, s28, s29, s30, s31, s32, s33, s34, s35, s36, s37, s38, s39, s40, s41, s42, s43, s44, s45, s46, s47, s48⟩
          go_simp
          with_reducible rfl
        rotate_left
        · simp only [Act.put, List.setIfInBounds_toArray, List.set_cons_zero, List.set_cons_succ, i64_w, i32_w]
          rfl
        refine pure_ (i := 34) (N := some 71) (v := ?_) (a' := ?_) #[true, true, true, true, true, true, true, true, true, true, true, true, true, true, true, true, true, true, true, true, true, true, true, true, true, true, true, true, true, true, true, false, true, true, true, false, false, false] rfl rfl (by kernel_rfl) (fun _ _ _ h => h) (Or.inl ⟨by rfl, ?_⟩) ?_ ?_
        rotate_left
        · intro w'
          go_simp
          with_reducible rfl
        rotate_left
        · simp only [Act.put, List.setIfInBounds_toArray, List.set_cons_zero, List.set_cons_succ, i64_w, i32_w]
          rfl
        refine one_ (i := 31) (N := some 68) #[true, true, true, true, true, true, true, true, true, true, true, true, true, true, true, true, true, true, true, true, true, true, true, true, true, true, true, true, true, true, true, true, true, true, true, false, false, false] rfl rfl (by kernel_rfl) (by decide) (fun K hK => ?_)
        refine goes_ Tryd.func15 (by kernel_rfl) rfl #[.agg #[.int .u64 x.f0, .int .u64 x.f1, .int .u64 x.f2, .string x.f3, .string x.f4, .int .i64 x.f5, .int .i64 m3, .int .i64 x.f7, .slice A8 x.f8.length c8, .slice A9 x.f9.length c9, .slice A10 x.f10.length c10]] (by rfl) rfl rfl (by simp only [List.map_toArray, List.map_cons, List.map_nil]; rfl) ?_
        with_reducible refine (HD.out _ HB8.out).mono ?_
        rintro e w9 ⟨rfl, hb⟩
        refine ⟨_, rfl, ?_⟩
        have HB9 := Lib.hid (below_step HB8.out hb)
        have K59 := Lib.hid (block_below K58.out hb)
        have K69 := Lib.hid (block_below K68.out hb)
        have K79 := Lib.hid (block_below K78.out hb)
        have K89 := Lib.hid (block_below K88.out hb)
        have KN9 := Lib.hid (block_below KN8.out hb)
        have KS9 := Lib.hid (block_below KS8.out hb)
        clear hb
        refine hK.out _ _ ⟨(blk_cell K59.out 0).trans rfl, (blk_cell K59.out 1).trans rfl, (blk_cell K59.out 2).trans rfl, (blk_cell K59.out 3).trans rfl, (blk_cell K59.out 4).trans rfl, (blk_cell K59.out 5).trans rfl, (blk_cell K59.out 6).trans rfl, (blk_cell K59.out 7).trans rfl, (blk_cell K59.out 8).trans rfl, (blk_cell K59.out 9).trans rfl, (blk_cell K59.out 10).trans rfl, (blk_cell K69.out 0).trans rfl, (blk_cell K69.out 1).trans rfl, (blk_cell K69.out 2).trans rfl, (blk_cell K69.out 3).trans rfl, (blk_cell K69.out 4).trans rfl, (blk_cell K69.out 5).trans rfl, (blk_cell K69.out 6).trans rfl, (blk_cell K69.out 7).trans rfl, (blk_cell K69.out 8).trans rfl, (blk_cell K69.out 9).trans rfl, (blk_cell K69.out 10).trans rfl, (blk_cell K79.out 0).trans rfl, (blk_cell K79.out 1).trans rfl, (blk_cell K79.out 2).trans rfl, (blk_cell K79.out 3).trans rfl, (blk_cell K79.out 4).trans rfl, (blk_cell K79.out 5).trans rfl, (blk_cell K79.out 6).trans rfl, (blk_cell K79.out 7).trans rfl, (blk_cell K79.out 8).trans rfl, (blk_cell K79.out 9).trans rfl, (blk_cell K79.out 10).trans rfl, (blk_cell K89.out 0).trans rfl, (blk_cell K89.out 1).trans rfl, (blk_cell K89.out 2).trans rfl, (blk_cell K89.out 3).trans rfl, (blk_cell K89.out 4).trans rfl, (blk_cell K89.out 5).trans rfl, (blk_cell K89.out 6).trans rfl, (blk_cell K89.out 7).trans rfl, (blk_cell K89.out 8).trans rfl, (blk_cell K89.out 9).trans rfl, (blk_cell K89.out 10).trans rfl, (blk_cell KN9.out 0).trans rfl, (blk_cell KN9.out 1).trans rfl, (blk_cell KN9.out 2).trans rfl, (blk_cell KN9.out 3).trans rfl, (blk_cell KS9.out 2).trans rfl⟩ (fun hHeld => ?_)
        clear hK K
        refine norm_ (a' := ?_) ?_ ?_
        rotate_left
        · show Act.put _ (some 68) _ = _
          simp only [Act.put, List.setIfInBounds_toArray, List.set_cons_zero, List.set_cons_succ, i64_w, i32_w]
          rfl
        refine pure_ (i := 35) (N := some 72) (v := ?_) (a' := ?_) #[true, true, true, true, true, true, true, true, true, true, true, true, true, true, true, true, true, true, true, true, true, true, true, true, true, true, true, true, true, true, true, true, true, true, true, true, false, false] rfl rfl (by kernel_rfl) (fun _ _ _ h => h) (Or.inl ⟨by rfl, ?_⟩) ?_ ?_
        rotate_left
        · intro w'
          go_simp
          with_reducible rfl
        rotate_left
        · simp only [Act.put, List.setIfInBounds_toArray, List.set_cons_zero, List.set_cons_succ, i64_w, i32_w]
          rfl
        refine pure_ (i := 36) (N := some 73) (v := ?_) (a' := ?_) #[true, true, true, true, true, true, true, true, true, true, true, true, true, true, true, true, true, true, true, true, true, true, true, true, true, true, true, true, true, true, true, true, true, true, true, true, true, false] rfl rfl (by kernel_rfl) (fun _ _ _ h => h) (Or.inl ⟨by rfl, ?_⟩) ?_ ?_
        rotate_left
        · intro w'
          go_simp
          with_reducible rfl
        rotate_left
        · simp only [Act.put, List.setIfInBounds_toArray, List.set_cons_zero, List.set_cons_succ, i64_w, i32_w]
          rfl
        refine pure_ (i := 37) (N := some 4) (v := ?_) (a' := ?_) #[true, true, true, true, true, true, true, true, true, true, true, true, true, true, true, true, true, true, true, true, true, true, true, true, true, true, true, true, true, true, true, true, true, true, true, true, true, true] rfl rfl (by kernel_rfl) (fun _ _ _ h => h) (Or.inl ⟨by rfl, ?_⟩) ?_ ?_
        rotate_left
        · intro w'
          go_simp
          with_reducible rfl
        rotate_left
        · simp only [Act.put, List.setIfInBounds_toArray, List.set_cons_zero, List.set_cons_succ, i64_w, i32_w]
          rfl
        refine done_ (by kernel_rfl) ?_
        go_wp2
        go_ret
        exact ⟨rfl, HB9.out⟩

theorem u64_wf {n : Int} (h : (Lit.int .u64 n).wf = true) : 0 ≤ n ∧ n ≤ 18446744073709551615 := by
  have h0 : IntKind.u64.min ≤ n ∧ n ≤ IntKind.u64.max := by simpa [Lit.wf] using h
  exact h0
theorem time_u64 (n : Int) (h : 0 ≤ n ∧ n ≤ 18446744073709551615) : timeB (IntKind.i64.wrap n) = decide (n ≤ 1152921504606846976) := by
  have hw : IntKind.i64.wrap n = if n ≤ 9223372036854775807 then n else n - 18446744073709551616 := by
    rw [i64_w]
    unfold wrap64
    split <;> omega
  rw [hw]
  unfold timeB
  by_cases h1 : n ≤ 9223372036854775807
  · rw [if_pos h1, if_pos (by omega)]
  · rw [if_neg h1, if_neg (by omega), decide_eq_false (by omega)]
theorem SpanFields (W : World) (x : S36) (cs : Array Value) (hk : k36.K W x cs.toList) (hg : G36 x) (v : List Int) (hv : v.length = 4) (hvw : ∀ y ∈ v, (Lit.int .u64 y).wf = true) (hT : Tabs W) :
    Calls Tryd.prog 5 #[.agg cs, .agg (v.map (Value.int .u64)).toArray] W fun e w' => e = .returned (.bool true) ∧ Below W.heap.size W w' := by
  match v, hv with
  | [n0, n1, n2, n3], _ =>
  have w0 := u64_wf (hvw n0 (by simp))
  have w1 := u64_wf (hvw n1 (by simp))
  have w2 := u64_wf (hvw n2 (by simp))
  have w3 := u64_wf (hvw n3 (by simp))
  simp only [List.map_cons, List.map_nil]
  obtain ⟨A8, c8, A9, c9, A10, c10, e0, ⟨l8, C8⟩, ⟨l9, C9⟩, ⟨l10, C10⟩⟩ := k36_open hk
  obtain ⟨_, _, _, _, _, _, _, _, ⟨_, g8⟩, ⟨_, g9⟩, ⟨_, g10⟩⟩ := hg
  obtain rfl := (Array.toArray_toList (xs := cs)).symm.trans (congrArg List.toArray e0)
  have hA : x.f8.length ≤ 140737488351232 := by omega
  have hE : x.f9.length ≤ 140737488351232 := by omega
  have hL : x.f10.length ≤ 140737488351232 := by omega
  obtain ⟨k, hkk⟩ : ∃ k, x.f8.length + x.f9.length + x.f10.length + 2400 < k := ⟨_, Nat.lt_succ_self _⟩
  obtain ⟨rs, es⟩ := small_some k x.f0 x.f1 x.f2 x.f3 x.f4 x.f5 x.f6 x.f7 x.f8 x.f9 x.f10 hA hE (by omega)
  obtain ⟨rm, em, im⟩ := ref_may k x.f0 x.f1 x.f2 x.f3 x.f4 x.f5 x.f6 x.f7 x.f8 x.f9 x.f10 hE hL (by omega)
  refine fields_calls x A8 A9 A10 c8 c9 c10 n0 n1 n2 n3 _ _ W hT rfl rfl _ _ _ _ _ rfl rfl rfl rfl rfl ⟨rs, fun w hb => ?_⟩ ⟨rm, fun w hb => ?_, fun hrt => ?_⟩
  · exact cambiumref16_Small.calls k _ _ _ _ _ _ _ _ _ _ _ _ _ _ _ _ _ rs w (Kd.C_below C8 hb) l8 (Kd.C_below C9 hb) l9 (Kd.C_below C10 hb) l10 es
  · exact cambiumref16_May.calls k _ _ _ _ _ _ _ _ _ _ _ _ _ _ _ _ _ rm w (Kd.C_below C8 hb) l8 (Kd.C_below C9 hb) l9 (Kd.C_below C10 hb) l10 em
  · obtain ⟨⟨p0, p1, p2, p3, p4, p5, p6, p7, p8⟩, hbody⟩ := im.mp hrt
    refine ⟨?_, ?_, ?_, ?_⟩
    · intro w hb
      obtain ⟨r, er, ir⟩ := span_may k n0 x.f1 x.f2 x.f3 x.f4 x.f5 x.f6 x.f7 x.f8 x.f9 x.f10 hA (by omega)
      have hr : r = (n0 != 0) := by
        rw [Bool.eq_iff_iff, ir]
        exact ⟨fun h => bne_iff_ne.mpr h.1.1, fun h => ⟨⟨bne_iff_ne.mp h, p1, p2, p3, p4, p5, p6, p7, p8⟩, hbody⟩⟩
      rw [hr] at er
      exact span_May.calls k _ _ _ _ _ _ _ _ _ _ _ _ _ _ _ _ _ _ w (Kd.C_below C8 hb) l8 (Kd.C_below C9 hb) l9 (Kd.C_below C10 hb) l10 er (tabs_below hT hb)
    · intro w hb
      obtain ⟨r, er, ir⟩ := span_may k x.f0 n1 x.f2 x.f3 x.f4 x.f5 x.f6 x.f7 x.f8 x.f9 x.f10 hA (by omega)
      have hr : r = ((n1 != 0) && (n1 != x.f2)) := by
        rw [Bool.eq_iff_iff, ir]
        exact ⟨fun h => by rw [Bool.and_eq_true]; exact ⟨bne_iff_ne.mpr h.1.2.1, bne_iff_ne.mpr (fun e => h.1.2.2.1 e.symm)⟩, fun h => by rw [Bool.and_eq_true] at h; exact ⟨⟨p0, bne_iff_ne.mp h.1, fun e => bne_iff_ne.mp h.2 e.symm, p3, p4, p5, p6, p7, p8⟩, hbody⟩⟩
      rw [hr] at er
      exact span_May.calls k _ _ _ _ _ _ _ _ _ _ _ _ _ _ _ _ _ _ w (Kd.C_below C8 hb) l8 (Kd.C_below C9 hb) l9 (Kd.C_below C10 hb) l10 er (tabs_below hT hb)
    · intro w hb
      obtain ⟨r, er, ir⟩ := span_may k x.f0 x.f1 x.f2 x.f3 x.f4 (IntKind.i64.wrap n2) x.f6 x.f7 x.f8 x.f9 x.f10 hA (by omega)
      have hr : r = (decide (n2 ≤ 1152921504606846976)) := by
        rw [Bool.eq_iff_iff, ir]
        exact ⟨fun h => by rw [← time_u64 n2 w2]; exact h.1.2.2.2.2.2.1, fun h => ⟨⟨p0, p1, p2, p3, p4, by rw [time_u64 n2 w2]; exact h, p6, p7, p8⟩, hbody⟩⟩
      rw [hr] at er
      exact span_May.calls k _ _ _ _ _ _ _ _ _ _ _ _ _ _ _ _ _ _ w (Kd.C_below C8 hb) l8 (Kd.C_below C9 hb) l9 (Kd.C_below C10 hb) l10 er (tabs_below hT hb)
    · intro w hb
      obtain ⟨r, er, ir⟩ := span_may k x.f0 x.f1 x.f2 x.f3 x.f4 x.f5 (IntKind.i64.wrap n3) x.f7 x.f8 x.f9 x.f10 hA (by omega)
      have hr : r = (decide (n3 ≤ 1152921504606846976)) := by
        rw [Bool.eq_iff_iff, ir]
        exact ⟨fun h => by rw [← time_u64 n3 w3]; exact h.1.2.2.2.2.2.2.1, fun h => ⟨⟨p0, p1, p2, p3, p4, p5, by rw [time_u64 n3 w3]; exact h, p7, p8⟩, hbody⟩⟩
      rw [hr] at er
      exact span_May.calls k _ _ _ _ _ _ _ _ _ _ _ _ _ _ _ _ _ _ w (Kd.C_below C8 hb) l8 (Kd.C_below C9 hb) l9 (Kd.C_below C10 hb) l10 er (tabs_below hT hb)
end Go.Proofs.YtkeepnmlphbffaaDoor.Walk
namespace Go.Proofs.YtkeepnmlphbffaaDoorW.PrintWords.Kd
open Go.RowKit
/-- An array of whole numbers: its cells are the elements'. -/
theorem arr_cells {n : Nat} {k : IntKind} {hs : 0 < (Kd.int k).sz} {enc : Int → Value} {w : World} {xs : List Int} {cs : List Value} (h : (Kd.arr n (Kd.int k) hs).K w xs cs) (he : enc = Value.int k := by rfl) : xs.length = n ∧ cs = xs.map enc := by
  subst he
  refine ⟨h.1, ?_⟩
  obtain ⟨hl, hg⟩ := h.2
  have hsz : (Kd.int k).sz = 1 := rfl
  rw [hsz] at hl hg
  rw [Nat.mul_one] at hl
  apply List.ext_getElem?
  intro j
  rcases Nat.lt_or_ge j xs.length with hj | hj
  · have h2 := hg j _ (List.getElem?_eq_getElem hj)
    rw [Nat.mul_one, List.drop_eq_getElem_cons (by omega), List.take_succ_cons, List.take_zero] at h2
    have h3 : [cs[j]'(by omega)] = [Value.int k xs[j]] := h2
    rw [List.getElem?_eq_getElem (by omega), List.getElem?_map, List.getElem?_eq_getElem hj, List.singleton_inj.mp h3]
    rfl
  · rw [List.getElem?_eq_none (by omega), List.getElem?_eq_none (by rw [List.length_map]; omega)]
end Go.Proofs.YtkeepnmlphbffaaDoorW.PrintWords.Kd

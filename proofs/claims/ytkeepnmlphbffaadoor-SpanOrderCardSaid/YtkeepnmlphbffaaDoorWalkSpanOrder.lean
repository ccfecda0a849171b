/- What the printed function Rune of the reference of chapter 2 comes to: the rune that Go's own decoder finds. -/
import Derived.Test.YtkeepnmlphbffaaDoorUtf
import Derived.Test.YtkeepnmlphbffaaDoorPSpx10
import Derived.Lib.ValidLaws
import Derived.Test.YtkeepnmlphbffaaDoorPSpx11
import Derived.Test.YtkeepnmlphbffaaDoorExtRight
import Derived.Test.YtkeepnmlphbffaaDoorRd
import Derived.Test.YtkeepnmlphbffaaDoorPSpx12
import Derived.Test.YtkeepnmlphbffaaDoorPSpx8
import Derived.Test.YtkeepnmlphbffaaDoorPSpx9
import Derived.Test.YtkeepnmlphbffaaDoorExtSpan
import Derived.Test.YtkeepnmlphbffaaDoorPSpx19
import Derived.Test.YtkeepnmlphbffaaDoorReads
namespace Go.Proofs.YtkeepnmlphbffaaDoor.Runes
open Go.RowKit Go.Proofs.YtkeepnmlphbffaaDoor.PSp Go.Proofs.YtkeepnmlphbffaaDoorW.PrintWords Go.Proofs.YtkeepnmlphbffaaDoorW.PrintLast Go.Proofs.YtkeepnmlphbffaaDoorW.PrintMore Go.Proofs.YtkeepnmlphbffaaDoor.Math
set_option linter.unusedVariables false

theorem bt_nb (s : ByteArray) (i : Nat) (h : i < s.size) : bt s (i : Int) = (nb s i : Int) := by
  unfold bt nb
  rw [dif_pos (by simpa using h)]
  simp only [Int.toNat_natCast]
  rw [ByteArray.get!, getElem!_pos s.data i h]
  rfl

theorem tdiv64 {x : Int} (h : 0 ≤ x) (h1 : x < 256) : Int.tdiv x 64 % 256 = x / 64 := by rw [Int.tdiv_eq_ediv_of_nonneg h]; omega
theorem l0_step (k : Nat) (t : ByteArray) (n : Nat) (v least : Int) (i : Nat) (hi : i < n) (hsz : n ≤ t.size) (hn : n ≤ 4) (h0 : 0 ≤ v) (h1 : v ≤ 16777216) :
    cambiumref02_Rune.l0 (k + 1) t (n : Int) v least (i : Int) = if nb t i / 64 = 2 then cambiumref02_Rune.l0 k t (n : Int) (v * 64 + ((nb t i % 64 : Nat) : Int)) least ((i + 1 : Nat) : Int) else some (65533, 1) := by
  have hb := nb_lt t i
  rw [cambiumref02_Rune.l0, if_pos (by omega), if_pos (by omega), if_pos (by omega), bt_nb t i (by omega), tdiv64 (by omega) (by omega), wrap_id (x := (nb t i : Int)) (by omega) (by omega), Int.tmod_eq_emod_of_nonneg (by omega), wrap_id (x := v * 64) (by omega) (by omega), wrap_id (x := (i : Int) + 1) (by omega) (by omega), wrap_id (by omega) (by omega)]
  by_cases h : nb t i / 64 = 2
  · rw [if_pos (by omega), if_pos h]; congr 1
  · rw [if_neg (by omega), if_neg h]
def okRune (v least : Int) : Bool := decide (least ≤ v ∧ v ≤ 1114111 ∧ ¬ (55296 ≤ v ∧ v < 57344))
theorem l0_end (k : Nat) (t : ByteArray) (n : Nat) (v least : Int) : cambiumref02_Rune.l0 (k + 1) t (n : Int) v least (n : Int) = if okRune v least = true then some (v, (n : Int)) else some (65533, 1) := by
  rw [cambiumref02_Rune.l0, if_neg (by omega)]
  unfold okRune
  by_cases h1 : v < least
  · rw [if_pos h1, if_neg (by simp; omega)]
  · by_cases h2 : v > 1114111
    · rw [if_neg h1, if_pos h2, if_neg (by simp; omega)]
    · by_cases h3 : v ≥ 55296
      · by_cases h4 : v < 57344
        · rw [if_neg h1, if_neg h2, if_pos h3, if_pos h4, if_neg (by simp; omega)]
        · rw [if_neg h1, if_neg h2, if_pos h3, if_neg h4, if_pos (by simp; omega)]
      · rw [if_neg h1, if_neg h2, if_neg h3, if_pos (by simp; omega)]
theorem j3_eq (k : Nat) (t : ByteArray) (n : Nat) (v least : Int) : cambiumref02_Rune.j3 (k + 1) t (n : Int) v least = if t.size < n then some (65533, 1) else cambiumref02_Rune.l0 k t (n : Int) v least 1 := by
  rw [cambiumref02_Rune.j3]
  by_cases h : t.size < n
  · rw [if_pos (by omega), if_pos h]
  · rw [if_neg (by omega), if_neg h]

theorem rune_byte (k : Nat) (t : ByteArray) (h0 : 0 < t.size) : cambiumref02_Rune.f (k + 12) t =
    (if nb t 0 < 128 then some ((nb t 0 : Int), 1)
     else if nb t 0 < 194 ∨ 245 ≤ nb t 0 then some (65533, 1)
     else if nb t 0 < 224 then cambiumref02_Rune.j3 (k + 11) t ((2 : Nat) : Int) ((nb t 0 % 32 : Nat) : Int) 128
     else if nb t 0 < 240 then cambiumref02_Rune.j3 (k + 10) t ((3 : Nat) : Int) ((nb t 0 % 16 : Nat) : Int) 2048
     else cambiumref02_Rune.j3 (k + 9) t ((4 : Nat) : Int) ((nb t 0 % 8 : Nat) : Int) 65536) := by
  have hb := nb_lt t 0
  have hbt := bt_nb t 0 h0
  rw [show ((0 : Nat) : Int) = 0 from rfl] at hbt
  unfold cambiumref02_Rune.f
  rw [if_pos (by omega), hbt, wrap_id (by omega) (by omega)]
  generalize hc : nb t 0 = c at *
  have m32 : Int.tmod (c : Int) 32 = ((c % 32 : Nat) : Int) := by rw [Int.tmod_eq_emod_of_nonneg (by omega)]; omega
  have m16 : Int.tmod (c : Int) 16 = ((c % 16 : Nat) : Int) := by rw [Int.tmod_eq_emod_of_nonneg (by omega)]; omega
  have m8 : Int.tmod (c : Int) 8 = ((c % 8 : Nat) : Int) := by rw [Int.tmod_eq_emod_of_nonneg (by omega)]; omega
  by_cases h1 : c < 128
  · rw [if_neg (by omega), if_pos h1, cambiumref02_Rune.j0, if_neg (by simp), if_neg (by omega), cambiumref02_Rune.j1, if_neg (by simp), if_neg (by omega), cambiumref02_Rune.j2, if_neg (by simp), if_neg (by omega)]
    have e := j3_eq (k + 8) t 1 (c : Int) 0
    rw [show ((1 : Nat) : Int) = 1 from rfl] at e
    rw [e, if_neg (by omega)]
    have e2 := l0_end (k + 7) t 1 (c : Int) 0
    rw [show ((1 : Nat) : Int) = 1 from rfl] at e2
    rw [e2, if_pos (by unfold okRune; simp; omega)]
  rw [if_neg h1]
  by_cases h2 : c < 194
  · rw [if_neg (show ¬ (c : Int) ≥ 194 by omega), if_pos (show c < 194 ∨ 245 ≤ c from .inl h2), cambiumref02_Rune.j0, if_neg (by simp), if_neg (by omega), cambiumref02_Rune.j1, if_neg (by simp), if_neg (by omega), cambiumref02_Rune.j2, if_neg (by simp), if_pos (by omega)]
  rw [if_pos (show (c : Int) ≥ 194 by omega)]
  by_cases h3 : c < 224
  · rw [if_neg (show ¬ (c < 194 ∨ 245 ≤ c) by omega), if_pos h3, cambiumref02_Rune.j0, if_pos (by simpa using (by omega : (c : Int) < 224)), m32]; rfl
  rw [cambiumref02_Rune.j0, if_neg (show ¬ decide ((c : Int) < 224) = true by simp; omega), if_pos (show (c : Int) ≥ 224 by omega)]
  by_cases h4 : c < 240
  · rw [if_neg (show ¬ (c < 194 ∨ 245 ≤ c) by omega), if_neg h3, if_pos h4, cambiumref02_Rune.j1, if_pos (by simpa using (by omega : (c : Int) < 240)), m16]; rfl
  rw [cambiumref02_Rune.j1, if_neg (show ¬ decide ((c : Int) < 240) = true by simp; omega), if_pos (show (c : Int) ≥ 240 by omega)]
  by_cases h5 : c < 245
  · rw [if_neg (show ¬ (c < 194 ∨ 245 ≤ c) by omega), if_neg h3, if_neg h4, cambiumref02_Rune.j2, if_pos (by simpa using (by omega : (c : Int) < 245)), m8]; rfl
  · rw [if_pos (show c < 194 ∨ 245 ≤ c by omega), cambiumref02_Rune.j2, if_neg (show ¬ decide ((c : Int) < 245) = true by simp; omega), if_pos (by omega)]

theorem rune_eq (k : Nat) (t : ByteArray) (h0 : 0 < t.size) (hk : 12 ≤ k) : cambiumref02_Rune.f k t = some (((Utf8.decode t 0).1 : Int), ((Utf8.decode t 0).2 : Int)) := by
  obtain ⟨k, rfl⟩ : ∃ m, k = m + 12 := ⟨k - 12, by omega⟩
  rw [rune_byte k t h0, Lib.decode_at]
  change _ = some (((Lib.decodeN (t.size - 0) (nb t 0) (nb t (0 + 1)) (nb t (0 + 2)) (nb t (0 + 3))).1 : Int), ((Lib.decodeN (t.size - 0) (nb t 0) (nb t (0 + 1)) (nb t (0 + 2)) (nb t (0 + 3))).2 : Int))
  rw [show t.size - 0 = t.size from rfl, show 0 + 1 = 1 from rfl, show 0 + 2 = 2 from rfl, show 0 + 3 = 3 from rfl]
  have b0 := nb_lt t 0
  have b1 := nb_lt t 1
  have b2 := nb_lt t 2
  have b3 := nb_lt t 3
  have s1 := fun (kk n : Nat) (v least : Int) (hi : 1 < n) (hsz : n ≤ t.size) (hn : n ≤ 4) (h0 : 0 ≤ v) (h1 : v ≤ 16777216) => l0_step kk t n v least 1 hi hsz hn h0 h1
  have s2 := fun (kk n : Nat) (v least : Int) (hi : 2 < n) (hsz : n ≤ t.size) (hn : n ≤ 4) (h0 : 0 ≤ v) (h1 : v ≤ 16777216) => l0_step kk t n v least 2 hi hsz hn h0 h1
  have s3 := fun (kk n : Nat) (v least : Int) (hi : 3 < n) (hsz : n ≤ t.size) (hn : n ≤ 4) (h0 : 0 ≤ v) (h1 : v ≤ 16777216) => l0_step kk t n v least 3 hi hsz hn h0 h1
  have e2 := fun (kk : Nat) (v least : Int) => l0_end kk t 2 v least
  have e3 := fun (kk : Nat) (v least : Int) => l0_end kk t 3 v least
  have e4 := fun (kk : Nat) (v least : Int) => l0_end kk t 4 v least
  simp only [Int.natCast_one] at s1
  generalize nb t 0 = c0 at *
  generalize nb t 1 = c1 at *
  generalize nb t 2 = c2 at *
  generalize nb t 3 = c3 at *
  unfold Lib.decodeN
  by_cases h1 : c0 < 128
  · rw [if_pos h1, if_pos h1]; rfl
  rw [if_neg h1, if_neg h1]
  by_cases h2 : c0 < 194 ∨ 245 ≤ c0
  · rw [if_pos h2]
    by_cases g1 : c0 / 32 = 6 ∧ (1 < t.size ∧ c1 / 64 = 2)
    · rw [if_pos g1, if_neg (by omega)]; rfl
    rw [if_neg g1, if_neg (by omega)]
    by_cases g3 : c0 / 8 = 30 ∧ (1 < t.size ∧ c1 / 64 = 2) ∧ (2 < t.size ∧ c2 / 64 = 2) ∧ (3 < t.size ∧ c3 / 64 = 2)
    · rw [if_pos g3, if_neg (by omega)]; rfl
    · rw [if_neg g3]; rfl
  rw [if_neg h2]
  by_cases h3 : c0 < 224
  · rw [if_pos h3, j3_eq]
    by_cases g2 : t.size < 2
    · rw [if_pos g2, if_neg (by omega), if_neg (by omega), if_neg (by omega)]; rfl
    rw [if_neg g2, s1 _ 2 _ _ (by omega) (by omega) (by omega) (by omega) (by omega)]
    by_cases g1 : c1 / 64 = 2
    · rw [if_pos g1, show ((1 + 1 : Nat) : Int) = ((2 : Nat) : Int) from rfl, e2, if_pos (by unfold okRune; simp; omega), if_pos (show c0 / 32 = 6 ∧ (1 < t.size ∧ c1 / 64 = 2) from ⟨by omega, by omega, g1⟩), if_pos (by omega)]
      simp
    · rw [if_neg g1, if_neg (by omega), if_neg (by omega), if_neg (by omega)]; rfl
  rw [if_neg h3]
  by_cases h4 : c0 < 240
  · rw [if_pos h4, j3_eq]
    by_cases g0 : t.size < 3
    · rw [if_pos g0, if_neg (by omega), if_neg (by omega), if_neg (by omega)]; rfl
    rw [if_neg g0, s1 _ 3 _ _ (by omega) (by omega) (by omega) (by omega) (by omega)]
    by_cases g1 : c1 / 64 = 2
    · rw [if_pos g1]
      have := s2 (k + 7) 3 (((c0 % 16 : Nat) : Int) * 64 + ((c1 % 64 : Nat) : Int)) 2048 (by omega) (by omega) (by omega) (by omega) (by omega)
      rw [show ((1 + 1 : Nat) : Int) = ((2 : Nat) : Int) from rfl, this]
      by_cases g2 : c2 / 64 = 2
      · rw [if_pos g2, show ((2 + 1 : Nat) : Int) = ((3 : Nat) : Int) from rfl, e3]
        by_cases g3 : c0 % 16 * 4096 + c1 % 64 * 64 + c2 % 64 ≥ 2048 ∧ (c0 % 16 * 4096 + c1 % 64 * 64 + c2 % 64 < 55296 ∨ (57344 ≤ c0 % 16 * 4096 + c1 % 64 * 64 + c2 % 64 ∧ c0 % 16 * 4096 + c1 % 64 * 64 + c2 % 64 ≤ 1114111))
        · rw [if_pos (by unfold okRune; simp; omega), if_neg (by omega), if_pos (show c0 / 16 = 14 ∧ (1 < t.size ∧ c1 / 64 = 2) ∧ (2 < t.size ∧ c2 / 64 = 2) from ⟨by omega, ⟨by omega, g1⟩, by omega, g2⟩), if_pos g3]
          simp; omega
        · rw [if_neg (by unfold okRune; simp; omega), if_neg (by omega), if_pos (show c0 / 16 = 14 ∧ (1 < t.size ∧ c1 / 64 = 2) ∧ (2 < t.size ∧ c2 / 64 = 2) from ⟨by omega, ⟨by omega, g1⟩, by omega, g2⟩), if_neg g3]; rfl
      · rw [if_neg g2, if_neg (by omega), if_neg (by omega), if_neg (by omega)]; rfl
    · rw [if_neg g1, if_neg (by omega), if_neg (by omega), if_neg (by omega)]; rfl
  rw [if_neg h4, j3_eq]
  by_cases g0 : t.size < 4
  · rw [if_pos g0, if_neg (by omega), if_neg (by omega), if_neg (by omega)]; rfl
  rw [if_neg g0, s1 _ 4 _ _ (by omega) (by omega) (by omega) (by omega) (by omega)]
  by_cases g1 : c1 / 64 = 2
  · rw [if_pos g1]
    have := s2 (k + 6) 4 (((c0 % 8 : Nat) : Int) * 64 + ((c1 % 64 : Nat) : Int)) 65536 (by omega) (by omega) (by omega) (by omega) (by omega)
    rw [show ((1 + 1 : Nat) : Int) = ((2 : Nat) : Int) from rfl, this]
    by_cases g2 : c2 / 64 = 2
    · rw [if_pos g2]
      have := s3 (k + 5) 4 ((((c0 % 8 : Nat) : Int) * 64 + ((c1 % 64 : Nat) : Int)) * 64 + ((c2 % 64 : Nat) : Int)) 65536 (by omega) (by omega) (by omega) (by omega) (by omega)
      rw [show ((2 + 1 : Nat) : Int) = ((3 : Nat) : Int) from rfl, this]
      by_cases g3 : c3 / 64 = 2
      · rw [if_pos g3, show ((3 + 1 : Nat) : Int) = ((4 : Nat) : Int) from rfl, e4]
        by_cases g4 : c0 % 8 * 262144 + c1 % 64 * 4096 + c2 % 64 * 64 + c3 % 64 ≥ 65536 ∧ (c0 % 8 * 262144 + c1 % 64 * 4096 + c2 % 64 * 64 + c3 % 64 < 55296 ∨ (57344 ≤ c0 % 8 * 262144 + c1 % 64 * 4096 + c2 % 64 * 64 + c3 % 64 ∧ c0 % 8 * 262144 + c1 % 64 * 4096 + c2 % 64 * 64 + c3 % 64 ≤ 1114111))
        · rw [if_pos (by unfold okRune; simp; omega), if_neg (by omega), if_neg (by omega), if_pos (show c0 / 8 = 30 ∧ (1 < t.size ∧ c1 / 64 = 2) ∧ (2 < t.size ∧ c2 / 64 = 2) ∧ (3 < t.size ∧ c3 / 64 = 2) from ⟨by omega, ⟨by omega, g1⟩, ⟨by omega, g2⟩, by omega, g3⟩), if_pos g4]
          simp; omega
        · rw [if_neg (by unfold okRune; simp; omega), if_neg (by omega), if_neg (by omega), if_pos (show c0 / 8 = 30 ∧ (1 < t.size ∧ c1 / 64 = 2) ∧ (2 < t.size ∧ c2 / 64 = 2) ∧ (3 < t.size ∧ c3 / 64 = 2) from ⟨by omega, ⟨by omega, g1⟩, ⟨by omega, g2⟩, by omega, g3⟩), if_neg g4]; rfl
      · rw [if_neg g3, if_neg (by omega), if_neg (by omega), if_neg (by omega)]; rfl
    · rw [if_neg g2, if_neg (by omega), if_neg (by omega), if_neg (by omega)]; rfl
  · rw [if_neg g1, if_neg (by omega), if_neg (by omega), if_neg (by omega)]; rfl

end Go.Proofs.YtkeepnmlphbffaaDoor.Runes

namespace Go.Proofs.YtkeepnmlphbffaaDoor.Runes
open Go.RowKit Go.Proofs.YtkeepnmlphbffaaDoor.PSp Go.Proofs.YtkeepnmlphbffaaDoorW.PrintWords Go.Proofs.YtkeepnmlphbffaaDoorW.PrintLast Go.Proofs.YtkeepnmlphbffaaDoorW.PrintMore Go.Proofs.YtkeepnmlphbffaaDoor.Math
set_option linter.unusedVariables false

theorem rune_at (k : Nat) (s : ByteArray) (i : Nat) (h : i < s.size) (hk : 12 ≤ k) : cambiumref02_Rune.f k (s.extract i s.size) = some ((rn s i : Int), (wd s i : Int)) := by
  rw [rune_eq k _ (by rw [extract_size]; omega) hk, dec_extract]; rfl

theorem runes_l0 (s : ByteArray) (hs : s.size ≤ 1000000) (d : Nat) : ∀ (k i : Nat) (a b : List Int), s.size - i ≤ d → i ≤ s.size → a.length ≤ i → b.length ≤ i → d + 13 < k →
    cambiumref02_Runes.l0 k s a b (i : Int) = some (a ++ (from_ s i).map (fun j => (rn s j : Int)), b ++ (from_ s i).map (fun (j : Nat) => (j : Int))) := by
  induction d with
  | zero =>
    intro k i a b h1 h2 ha hb hk
    obtain ⟨k, rfl⟩ : ∃ m, k = m + 1 := ⟨k - 1, by omega⟩
    rw [cambiumref02_Runes.l0, if_neg (by omega), from_ge (by omega)]; simp
  | succ d ih =>
    intro k i a b h1 h2 ha hb hk
    obtain ⟨k, rfl⟩ : ∃ m, k = m + 1 := ⟨k - 1, by omega⟩
    by_cases hi : i < s.size
    · have hw := dec_bounds s i hi
      rw [cambiumref02_Runes.l0, if_pos (by omega), if_pos (by omega), if_pos (by omega), Int.toNat_natCast, rune_at k s i hi (by omega), Option.bind_some, if_pos (by omega), if_pos (by omega), wrap_id (by omega) (by omega)]
      have := ih k (i + wd s i) (a ++ [(rn s i : Int)]) (b ++ [(i : Int)]) (by omega) (by omega) (by simp; omega) (by simp; omega) (by omega)
      rw [show ((i : Int) + (wd s i : Int)) = ((i + wd s i : Nat) : Int) by omega, this, from_lt hi]
      simp
    · rw [cambiumref02_Runes.l0, if_neg (by omega), from_ge hi]; simp
theorem runes_eq (k : Nat) (s : ByteArray) (hs : s.size ≤ 1000000) (hk : s.size + 13 < k) : cambiumref02_Runes.f k s = some (runesI s, posI s) := by
  unfold cambiumref02_Runes.f
  have := runes_l0 s hs s.size k 0 [] [] (by omega) (by omega) (by simp) (by simp) hk
  simpa [runesI, posI] using this

/-- Is a text UTF-8, from a place on? -/
def utfFrom (s : ByteArray) (i : Nat) : Bool := (from_ s i).all fun j => !(rn s j == 65533 && wd s j == 1)
theorem utf_l0 (s : ByteArray) (hs : s.size ≤ 1000000) (d : Nat) : ∀ (k i : Nat), s.size - i ≤ d → i ≤ s.size → d + 13 < k → cambiumref02_Utf.l0 k s (i : Int) = some (utfFrom s i) := by
  induction d with
  | zero =>
    intro k i h1 h2 hk
    obtain ⟨k, rfl⟩ : ∃ m, k = m + 1 := ⟨k - 1, by omega⟩
    rw [cambiumref02_Utf.l0, if_neg (by omega)]
    unfold utfFrom
    rw [from_ge (by omega)]; rfl
  | succ d ih =>
    intro k i h1 h2 hk
    obtain ⟨k, rfl⟩ : ∃ m, k = m + 1 := ⟨k - 1, by omega⟩
    by_cases hi : i < s.size
    · have hw := dec_bounds s i hi
      have hr := ih k (i + wd s i) (by omega) (by omega) (by omega)
      rw [show ((i + wd s i : Nat) : Int) = (i : Int) + (wd s i : Int) by omega] at hr
      rw [cambiumref02_Utf.l0, if_pos (by omega), if_pos (by omega), if_pos (by omega), Int.toNat_natCast, rune_at k s i hi (by omega), Option.bind_some, wrap_id (by omega) (by omega), hr]
      have hu : utfFrom s i = (!(rn s i == 65533 && wd s i == 1) && utfFrom s (i + wd s i)) := by
        unfold utfFrom; rw [from_lt hi]; rfl
      rw [hu]
      by_cases h3 : rn s i = 65533
      · by_cases h4 : wd s i = 1
        · rw [if_pos (by omega), if_pos (by omega), h3, h4]; rfl
        · rw [if_pos (by omega), if_neg (by omega)]; simp [h4]
      · rw [if_neg (by omega)]; simp [h3]
    · rw [cambiumref02_Utf.l0, if_neg (by omega)]
      unfold utfFrom
      rw [from_ge hi]; rfl
theorem utf_eq (k : Nat) (s : ByteArray) (hs : s.size ≤ 1000000) (hk : s.size + 13 < k) : cambiumref02_Utf.f k s = some (utfFrom s 0) := by
  unfold cambiumref02_Utf.f
  exact utf_l0 s hs s.size k 0 (by omega) (by omega) hk

def rightB (s : ByteArray) : Bool := (runesI s).all okI && utfFrom s 0
theorem right_l0 (s : ByteArray) (l : List Int) (hs : s.size ≤ 1000000) (hl : l.length ≤ 1000000) (d : Nat) : ∀ (k i : Nat), l.length - i ≤ d → i ≤ l.length → d + s.size + 15 < k →
    cambiumref02_Right.l0 k s l (i : Int) = some ((l.drop i).all okI && utfFrom s 0) := by
  induction d with
  | zero =>
    intro k i h1 h2 hk
    obtain ⟨k, rfl⟩ : ∃ m, k = m + 1 := ⟨k - 1, by omega⟩
    rw [cambiumref02_Right.l0, if_neg (by omega), utf_eq k s hs (by omega), List.drop_of_length_le (by omega)]; rfl
  | succ d ih =>
    intro k i h1 h2 hk
    obtain ⟨k, rfl⟩ : ∃ m, k = m + 1 := ⟨k - 1, by omega⟩
    by_cases hi : i < l.length
    · have hr := ih k (i + 1) (by omega) (by omega) (by omega)
      rw [show ((i + 1 : Nat) : Int) = (i : Int) + 1 by omega] at hr
      rw [cambiumref02_Right.l0, if_pos (by omega), if_pos (by omega), wrap_id (by omega) (by omega), hr, rd_drop hi, List.all_cons]
      generalize rd l (i : Int) = r
      unfold okI
      by_cases h3 : r < 32
      · rw [if_pos h3]; simp [h3]
      · rw [if_neg h3]
        by_cases h4 : r ≥ 127
        · by_cases h5 : r ≤ 159
          · rw [if_pos h4, if_pos h5]; simp [h4, h5]
          · rw [if_pos h4, if_neg h5]; simp [h3, h5]
        · rw [if_neg h4]; simp [h3, h4]
    · rw [cambiumref02_Right.l0, if_neg (by omega), utf_eq k s hs (by omega), List.drop_of_length_le (by omega)]; rfl
theorem runesI_len (s : ByteArray) : (runesI s).length ≤ s.size := by
  unfold runesI
  rw [List.length_map]
  have := from_len s s.size 0 (by omega)
  omega
theorem right_eq (k : Nat) (s : ByteArray) (hs : s.size ≤ 1000000) (hk : 2 * s.size + 16 < k) : cambiumref02_Right.f k s = some (rightB s) := by
  unfold cambiumref02_Right.f
  have hl := runesI_len s
  rw [runes_eq k s hs (by omega), Option.bind_some]
  have := right_l0 s (runesI s) hs (by omega) (runesI s).length k 0 (by omega) (by omega) (by omega)
  simpa [rightB] using this

end Go.Proofs.YtkeepnmlphbffaaDoor.Runes

namespace Go.Proofs.YtkeepnmlphbffaaDoor.Tells
open Go.RowKit Go.Proofs.YtkeepnmlphbffaaDoorW.PrintWords Go.Proofs.YtkeepnmlphbffaaDoorW.PrintLast Go.Proofs.YtkeepnmlphbffaaDoorW.PrintMore Go.Proofs.YtkeepnmlphbffaaDoor.Math
open Go.Proofs.YtkeepnmlphbffaaDoor.PSp Go.Proofs.YtkeepnmlphbffaaDoor.Runes Go.Proofs.YtkeepnmlphbffaaDoor.Text
set_option linter.unusedVariables false
set_option linter.unusedSimpArgs false
theorem drop_ext (s : ByteArray) (i : Nat) : (⟨(s.data.toList.drop i).toArray⟩ : ByteArray) = s.extract i s.size := by
  ext1
  rw [ByteArray.data_extract]
  apply Array.ext'
  rw [Array.toList_extract]
  simp [List.extract_eq_take_drop, List.take_of_length_le]
theorem decL_drop (s : ByteArray) (i : Nat) : Lib.decodeL (s.data.toList.drop i) = (rn s i, wd s i) := by
  unfold Lib.decodeL
  rw [drop_ext, dec_extract]
  rfl
theorem valid_utf (s : ByteArray) : ∀ (d i : Nat), s.size - i ≤ d → Lib.validD (s.data.toList.drop i) = utfFrom s i := by
  intro d
  induction d with
  | zero =>
    intro i h
    have h0 : s.data.toList.drop i = [] := List.drop_eq_nil_of_le (by have := data_size s; rw [Array.length_toList]; omega)
    rw [h0, Lib.validD_nil]
    unfold utfFrom
    rw [from_ge (by omega)]
    rfl
  | succ d ih =>
    intro i h
    by_cases hlt : i < s.size
    · have hne : s.data.toList.drop i ≠ [] := by
        intro h0
        have := congrArg List.length h0
        rw [List.length_drop, Array.length_toList, data_size] at this
        simp at this
        omega
      have hb := dec_bounds s i hlt
      rw [Lib.validD_step _ hne, decL_drop, List.drop_drop, ih (i + wd s i) (by omega)]
      unfold utfFrom
      rw [from_lt hlt, List.all_cons]
      by_cases hc : rn s i = 65533 ∧ wd s i = 1
      · rw [if_pos hc]; simp [hc.1, hc.2]
      · rw [if_neg hc]
        have hc' : (rn s i == 65533 && wd s i == 1) = false := by
          rw [Bool.and_eq_false_iff, beq_eq_false_iff_ne, beq_eq_false_iff_ne]
          omega
        rw [hc']; rfl
    · have h0 : s.data.toList.drop i = [] := List.drop_eq_nil_of_le (by have := data_size s; rw [Array.length_toList]; omega)
      rw [h0, Lib.validD_nil]
      unfold utfFrom
      rw [from_ge hlt]
      rfl
theorem right_same (s : ByteArray) : (Lib.validD s.data.toList && (runesI s).all okI) = rightB s := by
  have h := valid_utf s s.size 0 (by omega)
  rw [List.drop_zero] at h
  rw [h]
  unfold rightB
  exact Bool.and_comm _ _
end Go.Proofs.YtkeepnmlphbffaaDoor.Tells

namespace Go.Proofs.YtkeepnmlphbffaaDoor.Math
open Go.RowKit Go.Proofs.YtkeepnmlphbffaaDoorW.PrintWords
set_option linter.unusedVariables false

/-- Does one row come ahead of another one? -/
def lexLt : List Int → List Int → Bool
  | [], [] => false
  | [], _ :: _ => true
  | _ :: _, [] => false
  | a :: s, b :: t => if a = b then lexLt s t else decide (a < b)
theorem lexLt_nil_right (a : List Int) : lexLt a [] = false := by cases a <;> rfl
theorem lexLt_irrefl : ∀ a : List Int, lexLt a a = false
  | [] => rfl
  | x :: s => by simp only [lexLt, if_true]; exact lexLt_irrefl s
theorem lexLt_app : ∀ (p a b : List Int), lexLt (p ++ a) (p ++ b) = lexLt a b
  | [], _, _ => rfl
  | x :: p, a, b => by simp only [List.cons_append, lexLt, if_true]; exact lexLt_app p a b
theorem lexLt_tri : ∀ a b : List Int, lexLt a b = true ∨ a = b ∨ lexLt b a = true
  | [], [] => .inr (.inl rfl)
  | [], _ :: _ => .inl rfl
  | _ :: _, [] => .inr (.inr rfl)
  | a :: s, b :: t => by
    simp only [lexLt]
    by_cases h : a = b
    · subst h
      rw [if_pos rfl, if_pos rfl]
      rcases lexLt_tri s t with h | h | h
      · exact .inl h
      · exact .inr (.inl (by rw [h]))
      · exact .inr (.inr h)
    · rw [if_neg h, if_neg (fun e => h e.symm)]
      rcases Int.lt_or_lt_of_ne h with h1 | h1
      · exact .inl (decide_eq_true h1)
      · exact .inr (.inr (decide_eq_true h1))
theorem lexLt_asymm : ∀ a b : List Int, lexLt a b = true → lexLt b a = false
  | [], [] => fun h => by cases h
  | [], _ :: _ => fun _ => rfl
  | _ :: _, [] => fun h => by cases h
  | a :: s, b :: t => by
    simp only [lexLt]
    by_cases h : a = b
    · subst h
      rw [if_pos rfl, if_pos rfl]
      exact lexLt_asymm s t
    · rw [if_neg h, if_neg (fun e => h e.symm)]
      intro h1
      have := of_decide_eq_true h1
      exact decide_eq_false (by omega)
theorem lexLt_trans : ∀ a b c : List Int, lexLt a b = true → lexLt b c = true → lexLt a c = true
  | [], [], c => fun h _ => by cases h
  | [], _ :: _, [] => fun _ h => by cases h
  | [], _ :: _, _ :: _ => fun _ _ => rfl
  | _ :: _, [], c => fun h _ => by cases h
  | _ :: _, _ :: _, [] => fun _ h => by cases h
  | a :: s, b :: t, c :: u => by
    simp only [lexLt]
    by_cases h : a = b
    · subst h
      rw [if_pos rfl]
      by_cases h2 : a = c
      · subst h2; rw [if_pos rfl, if_pos rfl]; exact lexLt_trans s t u
      · rw [if_neg h2, if_neg h2]; exact fun _ h => h
    · rw [if_neg h]
      intro h1
      by_cases h2 : b = c
      · subst h2; rw [if_pos rfl, if_neg h]; exact fun _ => h1
      · rw [if_neg h2]
        intro h3
        have a1 := of_decide_eq_true h1
        have a2 := of_decide_eq_true h3
        rw [if_neg (by omega)]
        exact decide_eq_true (by omega)
/-- Rows that part at a place are told by what stands there. -/
theorem lexLt_diff (p a b : List Int) (x y : Int) (h : ¬ x = y) : lexLt (p ++ x :: a) (p ++ y :: b) = decide (x < y) := by
  rw [lexLt_app]; simp only [lexLt]; rw [if_neg h]
theorem lexLt_append_eq_len : ∀ (a b c d : List Int), a.length = b.length → lexLt (a ++ c) (b ++ d) = if a = b then lexLt c d else lexLt a b
  | [], [], c, d, _ => by simp
  | [], _ :: _, _, _, h => by simp at h
  | _ :: _, [], _, _, h => by simp at h
  | x :: a, y :: b, c, d, h => by
    simp only [List.cons_append, lexLt]
    by_cases e : x = y
    · subst e
      rw [if_pos rfl, if_pos rfl, lexLt_append_eq_len a b c d (by simpa using h)]
      by_cases e2 : a = b
      · subst e2; simp
      · simp [e2]
    · rw [if_neg e, if_neg e, if_neg (by simp [e])]

end Go.Proofs.YtkeepnmlphbffaaDoor.Math

namespace Go.Proofs.YtkeepnmlphbffaaDoor.NumFacts
open Go.RowKit Go.Proofs.YtkeepnmlphbffaaDoor.PSp Go.Proofs.YtkeepnmlphbffaaDoorW.PrintWords Go.Proofs.YtkeepnmlphbffaaDoorW.PrintLast Go.Proofs.YtkeepnmlphbffaaDoorW.PrintMore Go.Proofs.YtkeepnmlphbffaaDoor.Math
set_option linter.unusedVariables false

theorem less_l0 (a b : List Int) (ha : a.length ≤ 140737488355328) (d : Nat) : ∀ (k i : Nat), i ≤ a.length → i ≤ b.length → a.length - i = d → 2 * d + 1 < k →
    cambiumref01_Less.l0 k a b (i : Int) = some (lexLt (a.drop i) (b.drop i)) := by
  induction d with
  | zero =>
    intro k i h1 h2 hd hk
    obtain ⟨k, rfl⟩ : ∃ m, k = m + 1 + 1 := ⟨k - 2, by omega⟩
    have hi : i = a.length := by omega
    subst hi
    rw [cambiumref01_Less.l0, if_neg (by omega), cambiumref01_Less.j1, if_neg (by simp), List.drop_length]
    by_cases hb : a.length < b.length
    · rw [rd_drop hb]
      simp only [lexLt]
      rw [decide_eq_true (by omega)]
    · rw [List.drop_of_length_le (by omega)]
      simp only [lexLt]
      rw [decide_eq_false (by omega)]
  | succ d ih =>
    intro k i h1 h2 hd hk
    obtain ⟨k, rfl⟩ : ∃ m, k = m + 1 + 1 := ⟨k - 2, by omega⟩
    rw [cambiumref01_Less.l0, if_pos (by omega), cambiumref01_Less.j1]
    rw [rd_drop (l := a) (i := i) (by omega)]
    by_cases hb : i < b.length
    · rw [rd_drop hb, if_pos (by simpa using (by omega : (i : Int) < (b.length : Int))), if_pos (by omega), if_pos (by omega), if_pos (by omega)]
      simp only [lexLt]
      by_cases e : rd a (i : Int) = rd b (i : Int)
      · rw [if_pos e, if_pos e, wrap_id (by omega) (by omega)]
        exact ih k (i + 1) (by omega) (by omega) (by omega) (by omega)
      · rw [if_neg e, if_neg e]
    · rw [List.drop_of_length_le (l := b) (by omega), if_neg (by simpa using (by omega : (b.length : Int) ≤ (i : Int)))]
      simp only [lexLt]
      rw [decide_eq_false (by omega)]
theorem less_eq (k : Nat) (a b : List Int) (ha : a.length ≤ 140737488355328) (hk : 2 * a.length + 1 < k) : cambiumref01_Less.f k a b = some (lexLt a b) := by
  unfold cambiumref01_Less.f
  have := less_l0 a b ha a.length k 0 (by omega) (by omega) (by omega) hk
  simpa using this

end Go.Proofs.YtkeepnmlphbffaaDoor.NumFacts

namespace Go.Proofs.YtkeepnmlphbffaaDoor.Pure
open Go.RowKit Go.Proofs.YtkeepnmlphbffaaDoorW.PrintWords Go.Proofs.YtkeepnmlphbffaaDoorW.PrintLast Go.Proofs.YtkeepnmlphbffaaDoorW.PrintMore Go.Proofs.YtkeepnmlphbffaaDoor.Math
open Go.Proofs.YtkeepnmlphbffaaDoor.PSp Go.Proofs.YtkeepnmlphbffaaDoor.Runes Go.Proofs.YtkeepnmlphbffaaDoor.Text Go.Proofs.YtkeepnmlphbffaaDoor.Span
set_option linter.unusedVariables false
set_option linter.unusedSimpArgs false
theorem one_right (c : UInt8) (h : c.toNat < 127) (h2 : 32 ≤ c.toNat) : rightT (⟨#[c]⟩ : ByteArray) = true := by
  have hs : (⟨#[c]⟩ : ByteArray).size = 1 := rfl
  have hn : nb (⟨#[c]⟩ : ByteArray) 0 = c.toNat := rfl
  have hd : Utf8.decode (⟨#[c]⟩ : ByteArray) 0 = (c.toNat, 1) := by
    have e := Lib.decode_at (⟨#[c]⟩ : ByteArray) 0
    rw [e]
    unfold Lib.decodeN
    exact if_pos (show c.toNat < 128 by omega)
  have hr : runesI (⟨#[c]⟩ : ByteArray) = [(c.toNat : Int)] := by
    unfold runesI
    rw [from_lt (by rw [hs]; omega)]
    have hw : wd (⟨#[c]⟩ : ByteArray) 0 = 1 := by unfold wd; rw [hd]
    have hr : rn (⟨#[c]⟩ : ByteArray) 0 = c.toNat := by unfold rn; rw [hd]
    rw [hw, from_ge (by rw [hs]; omega), List.map_cons, hr]
    rfl
  have hv : Lib.validD [c] = true := by
    rw [Lib.validD_step _ (by simp), Lib.decodeL_ascii c [] (by omega)]
    rw [if_neg (by simp only; omega)]
    exact Lib.validD_nil
  unfold rightT
  rw [hr, show (⟨#[c]⟩ : ByteArray).data.toList = [c] from rfl, hv, Bool.true_and, List.all_cons, List.all_nil, Bool.and_true]
  unfold okI
  have h3 : ¬ (c.toNat : Int) < 32 := by omega
  have h4 : ¬ (c.toNat : Int) ≥ 127 := by omega
  rw [decide_eq_false h3, decide_eq_false h4]
  rfl
theorem name_eqS (s : ByteArray) : span_mayName.f s = some (nameB s) := by
  unfold span_mayName.f nameB
  split
  · rfl
  · split
    · rw [right_eq s (by omega)]
      rfl
    · rfl
theorem time_eqS (n : Int) : span_mayTime.f n = some (timeB n) := by
  unfold span_mayTime.f timeB
  split <;> rfl
theorem one_name (c : UInt8) (h : c.toNat < 127) (h2 : 32 ≤ c.toNat) : nameB (⟨#[c]⟩ : ByteArray) = true := by
  unfold nameB
  rw [if_neg (by rw [ByteArray.toList_eq]; exact List.cons_ne_nil _ _), if_pos (by show ((1 : Nat) : Int) ≤ 32; omega), one_right c h h2]
theorem awakeS (k : Nat) : cambiumlaw16_awake.f (k + 2) = some true := by
  have c1 : span_Compare.f 1 (⟨#[]⟩ : ByteArray) 7 false 1 (⟨#[]⟩ : ByteArray) 9 false = some (-1, true) := rfl
  have c2 : span_Compare.f 0 (⟨#[55]⟩ : ByteArray) 0 false 1 (⟨#[]⟩ : ByteArray) 9 false = some (0, false) := rfl
  have ht0 : timeB 0 = true := rfl
  have ht5 : timeB 5 = true := rfl
  have hat : span_mayAttrs.f (k + 1) ([] : List S43) = some true := by
    unfold span_mayAttrs.f
    rw [span_mayAttrs.l0, if_neg (by simp)]
    rfl
  have m1 : span_May.f (k + 2) 1 2 0 (⟨#[115]⟩ : ByteArray) (⟨#[111]⟩ : ByteArray) 0 5 0 ([] : List S43) ([] : List S59) ([] : List S62) = some true := by
    unfold span_May.f
    rw [if_neg (by omega), if_neg (by omega), if_neg (by omega), name_eqS, one_name 115 (by decide) (by decide), Option.bind_some, if_pos rfl, name_eqS, one_name 111 (by decide) (by decide), Option.bind_some,
      span_May.j0, time_eqS, ht0, Option.bind_some, if_pos rfl, time_eqS, ht5, Option.bind_some, if_pos rfl, if_pos (by omega), if_pos rfl, if_pos (by omega), hat, Option.bind_some, if_pos rfl]
    rfl
  have m2 : span_May.f (k + 2) 0 0 0 (⟨#[]⟩ : ByteArray) (⟨#[]⟩ : ByteArray) 0 0 0 ([] : List S43) ([] : List S59) ([] : List S62) = some false := by
    unfold span_May.f
    rw [if_pos rfl, span_May.j0, time_eqS, ht0, Option.bind_some, if_pos rfl, Option.bind_some, if_pos rfl, if_pos (by omega), if_neg Bool.false_ne_true]
  unfold cambiumlaw16_awake.f
  rw [c1, Option.bind_some, c2, Option.bind_some, m1, Option.bind_some, if_pos rfl, m2, Option.bind_some, if_neg Bool.false_ne_true, if_pos rfl, if_pos rfl, if_neg Bool.false_ne_true]
  have hw : wrap64 (0 + 5) = 5 := by unfold wrap64; omega
  unfold span_End.f
  rw [Option.bind_some, hw]
  rfl
theorem wsuc (i : Nat) (h : i ≤ 200000000000000) : wrap64 ((i : Int) + 1) = ((i + 1 : Nat) : Int) := by unfold wrap64; omega
theorem small_l1 (a b c : Int) (s o : ByteArray) (d e f : Int) (A : List S43) (E : List S59) (L : List S62) (hE : E.length ≤ 140737488351232) (n : Nat) :
    ∀ (k i : Nat) (x : Int), E.length - i ≤ n → n < k → ∃ r, cambiumref16_Small.l1 k x (i : Int) a b c s o d e f A E L = some r := by
  induction n with
  | zero =>
    intro k i x h hk
    obtain ⟨k, rfl⟩ : ∃ j, k = j + 1 := ⟨k - 1, by omega⟩
    exact ⟨_, by rw [cambiumref16_Small.l1, if_neg (by omega)]⟩
  | succ n ih =>
    intro k i x h hk
    obtain ⟨k, rfl⟩ : ∃ j, k = j + 1 := ⟨k - 1, by omega⟩
    by_cases hlt : i < E.length
    · rw [cambiumref16_Small.l1, if_pos (by omega)]
      by_cases hx : x ≤ 6000
      · rw [if_pos hx, if_pos (by omega), wsuc i (by omega)]
        exact ih k (i + 1) _ (by omega) (by omega)
      · exact ⟨_, by rw [if_neg hx]⟩
    · exact ⟨_, by rw [cambiumref16_Small.l1, if_neg (by omega)]⟩
theorem small_l0 (a b c : Int) (s o : ByteArray) (d e f : Int) (A : List S43) (E : List S59) (L : List S62) (hA : A.length ≤ 140737488351232) (hE : E.length ≤ 140737488351232) (n : Nat) :
    ∀ (k i : Nat) (x : Int), A.length - i ≤ n → n + E.length + 2 < k → ∃ r, cambiumref16_Small.l0 k x (i : Int) a b c s o d e f A E L = some r := by
  have hend : ∀ (k : Nat) (x : Int), E.length + 1 < k → ∃ r, cambiumref16_Small.j1 k x a b c s o d e f A E L = some r := by
    intro k x hk
    obtain ⟨k, rfl⟩ : ∃ j, k = j + 1 := ⟨k - 1, by omega⟩
    rw [cambiumref16_Small.j1]
    exact small_l1 a b c s o d e f A E L hE E.length k 0 x (by omega) (by omega)
  induction n with
  | zero =>
    intro k i x h hk
    obtain ⟨k, rfl⟩ : ∃ j, k = j + 1 := ⟨k - 1, by omega⟩
    rw [cambiumref16_Small.l0, if_neg (by omega)]
    exact hend k x (by omega)
  | succ n ih =>
    intro k i x h hk
    obtain ⟨k, rfl⟩ : ∃ j, k = j + 1 := ⟨k - 1, by omega⟩
    by_cases hlt : i < A.length
    · rw [cambiumref16_Small.l0, if_pos (by omega)]
      by_cases hx : x ≤ 6000
      · rw [if_pos hx, if_pos (by omega), wsuc i (by omega)]
        exact ih k (i + 1) _ (by omega) (by omega)
      · rw [if_neg hx]
        exact hend k x (by omega)
    · rw [cambiumref16_Small.l0, if_neg (by omega)]
      exact hend k x (by omega)
theorem small_some (k : Nat) (a b c : Int) (s o : ByteArray) (d e f : Int) (A : List S43) (E : List S59) (L : List S62) (hA : A.length ≤ 140737488351232) (hE : E.length ≤ 140737488351232) (hk : A.length + E.length + 3 < k) :
    ∃ r, cambiumref16_Small.f k a b c s o d e f A E L = some r := by
  unfold cambiumref16_Small.f
  exact small_l0 a b c s o d e f A E L hA hE A.length k 0 _ (by omega) (by omega)
end Go.Proofs.YtkeepnmlphbffaaDoor.Pure

namespace Go.Proofs.YtkeepnmlphbffaaDoor.Pure
open Go.RowKit Go.Proofs.YtkeepnmlphbffaaDoorW.PrintWords Go.Proofs.YtkeepnmlphbffaaDoorW.PrintLast Go.Proofs.YtkeepnmlphbffaaDoorW.PrintMore Go.Proofs.YtkeepnmlphbffaaDoor.Math
open Go.Proofs.YtkeepnmlphbffaaDoor.PSp Go.Proofs.YtkeepnmlphbffaaDoor.Runes Go.Proofs.YtkeepnmlphbffaaDoor.Text Go.Proofs.YtkeepnmlphbffaaDoor.Span Go.Proofs.YtkeepnmlphbffaaDoor.NumFacts
set_option linter.unusedVariables false
set_option linter.unusedSimpArgs false
def nums (l : List UInt8) : List Int := l.map fun b => (b.toNat : Int)
theorem cmpB_lex : ∀ (x y : List UInt8), Lib.compareBytes x y = if lexLt (nums x) (nums y) = true then -1 else if lexLt (nums y) (nums x) = true then 1 else 0 := by
  intro x
  induction x with
  | nil =>
    intro y
    cases y with
    | nil => rfl
    | cons b t => rfl
  | cons a s ih =>
    intro y
    cases y with
    | nil => rfl
    | cons b t =>
      have ha : nums (a :: s) = (a.toNat : Int) :: nums s := rfl
      have hb : nums (b :: t) = (b.toNat : Int) :: nums t := rfl
      have l1 : lexLt (nums (a :: s)) (nums (b :: t)) = if (a.toNat : Int) = (b.toNat : Int) then lexLt (nums s) (nums t) else decide ((a.toNat : Int) < (b.toNat : Int)) := rfl
      have l2 : lexLt (nums (b :: t)) (nums (a :: s)) = if (b.toNat : Int) = (a.toNat : Int) then lexLt (nums t) (nums s) else decide ((b.toNat : Int) < (a.toNat : Int)) := rfl
      have hlt : ∀ p q : UInt8, p < q ↔ (p.toNat : Int) < (q.toNat : Int) := fun p q => by rw [UInt8.lt_iff_toNat_lt]; omega
      rw [Lib.compareBytes]
      by_cases h1 : a < b
      · have h := (hlt a b).mp h1
        rw [if_neg (by omega), decide_eq_true h] at l1
        rw [if_pos h1, l1, if_pos rfl]
      · by_cases h2 : b < a
        · have h := (hlt b a).mp h2
          rw [if_neg (by omega), decide_eq_false (by omega)] at l1
          rw [if_neg (by omega), decide_eq_true h] at l2
          rw [if_neg h1, if_pos h2, l1, l2, if_neg Bool.false_ne_true, if_pos rfl]
        · have h3 : ¬ (a.toNat : Int) < (b.toNat : Int) := fun h => h1 ((hlt a b).mpr h)
          have h4 : ¬ (b.toNat : Int) < (a.toNat : Int) := fun h => h2 ((hlt b a).mpr h)
          have e : (a.toNat : Int) = (b.toNat : Int) := by omega
          rw [if_pos e] at l1
          rw [if_pos e.symm] at l2
          rw [if_neg h1, if_neg h2, l1, l2, ih t]
theorem less_txt (k : Nat) (s t : ByteArray) (hs : s.size ≤ 1000) (hk : 2100 < k) : cambiumref01_Less.f k (bytesOf s) (bytesOf t) = some (lexLt (nums s.data.toList) (nums t.data.toList)) := by
  rw [less_eq k _ _ (by rw [bytesOf_length]; omega) (by rw [bytesOf_length]; omega)]
  rfl
theorem refcmp (k : Nat) (k0 : Int) (s0 : ByteArray) (n0 : Int) (b0 : Bool) (k1 : Int) (s1 : ByteArray) (n1 : Int) (b1 : Bool) (h0 : s0.size ≤ 1000) (h1 : s1.size ≤ 1000) (hk : 2200 < k) :
    cambiumref16_Compare.f k k0 s0 n0 b0 k1 s1 n1 b1 = some (cmpV k0 s0 n0 b0 k1 s1 n1 b1) := by
  obtain ⟨k, rfl⟩ : ∃ j, k = j + 1 + 1 + 1 := ⟨k - 3, by omega⟩
  have ht : cambiumref16_Compare.j0 (k + 1 + 1 + 1) true k0 s0 n0 b0 k1 s1 n1 b1 = some (0, false) := by rw [cambiumref16_Compare.j0, if_pos rfl]
  unfold cambiumref16_Compare.f cmpV
  by_cases e : k0 = k1
  · rw [if_pos e, if_pos e]
    by_cases hn : k0 < 0
    · rw [if_pos hn, ht, if_neg (by omega), if_neg (by omega), if_neg (by omega)]
    · rw [if_neg hn]
      by_cases hg : k0 > 2
      · rw [decide_eq_true hg, ht, if_neg (by omega), if_neg (by omega), if_neg (by omega)]
      · rw [decide_eq_false hg, cambiumref16_Compare.j0, if_neg Bool.false_ne_true]
        by_cases z0 : k0 = 0
        · rw [if_pos z0, if_pos z0, if_pos (by omega), if_pos (by omega), less_txt _ s0 s1 h0 (by omega), Option.bind_some, cmpB_lex]
          have hj : ∀ b : Bool, cambiumref16_Compare.j1 (k + 1 + 1) b k0 s0 n0 b0 k1 s1 n1 b1 = some (if b = true then (-1, true) else if lexLt (nums s1.data.toList) (nums s0.data.toList) = true then (1, true) else (0, true)) := by
            intro b
            rw [cambiumref16_Compare.j1, if_pos z0, if_pos (by omega), if_pos (by omega), less_txt _ s1 s0 h1 (by omega), Option.bind_some]
            cases hq : lexLt (nums s1.data.toList) (nums s0.data.toList) with
            | true => rw [if_pos rfl, cambiumref16_Compare.j2]; cases b <;> rfl
            | false => rw [if_neg Bool.false_ne_true, if_neg (show ¬ k0 = 1 by omega), if_neg (show ¬ k0 = 2 by omega), cambiumref16_Compare.j2]; cases b <;> rfl
          cases hq : lexLt (nums s0.data.toList) (nums s1.data.toList) with
          | true => rw [if_pos rfl, if_pos rfl, hj, if_pos rfl]
          | false =>
            rw [if_neg Bool.false_ne_true, if_neg Bool.false_ne_true, if_neg (show ¬ k0 = 1 by omega), if_neg (show ¬ k0 = 2 by omega), hj, if_neg Bool.false_ne_true]
            split <;> rfl
        · rw [if_neg z0, if_neg z0]
          by_cases z1 : k0 = 1
          · rw [if_pos z1, if_pos z1]
            have hj : ∀ b : Bool, cambiumref16_Compare.j1 (k + 1 + 1) b k0 s0 n0 b0 k1 s1 n1 b1 = some (if b = true then (-1, true) else if n0 > n1 then (1, true) else (0, true)) := by
              intro b
              rw [cambiumref16_Compare.j1, if_neg z0, if_pos z1]
              by_cases hq : n0 > n1
              · rw [if_pos hq, if_pos hq, cambiumref16_Compare.j2]; cases b <;> rfl
              · rw [if_neg hq, if_neg hq, if_neg (show ¬ k0 = 2 by omega), cambiumref16_Compare.j2]; cases b <;> rfl
            unfold cmpI
            by_cases hq : n0 < n1
            · rw [if_pos hq, if_pos hq, hj, if_pos rfl]
            · rw [if_neg hq, if_neg hq, if_neg (show ¬ k0 = 2 by omega), hj, if_neg Bool.false_ne_true]
              split <;> rfl
          · rw [if_neg z1, if_neg z1]
            have z2 : k0 = 2 := by omega
            rw [if_pos z2, if_pos z2]
            have hj : ∀ b : Bool, cambiumref16_Compare.j1 (k + 1 + 1) b k0 s0 n0 b0 k1 s1 n1 b1 = some (if b = true then (-1, true) else if (b0 && !b1) = true then (1, true) else (0, true)) := by
              intro b
              rw [cambiumref16_Compare.j1, if_neg z0, if_neg z1, if_pos z2]
              cases b0 <;> cases b1 <;> cases b <;> rfl
            unfold cmpI b2i
            cases b0 <;> cases b1 <;> simp [hj]
  · rw [if_neg e, if_neg e, ht]
theorem right_ref (k : Nat) (s : ByteArray) (h : (s.size : Int) ≤ 200) (hk : 500 < k) : cambiumref02_Right.f k s = some (rightT s) := by
  rw [Runes.right_eq k s (by omega) (by omega)]
  unfold rightT
  rw [Tells.right_same]
theorem refval (k : Nat) (k0 : Int) (s : ByteArray) (n : Int) (b : Bool) (hk : 500 < k) : cambiumref16_Value.f k k0 s n b = some (mvB k0 s n b) := by
  have hr : (if (s.size : Int) ≤ 200 then ((cambiumref02_Right.f k s).bind fun t => some t) else some false) = some (decide ((s.size : Int) ≤ 200) && rightT s) := by
    by_cases h : (s.size : Int) ≤ 200
    · rw [if_pos h, right_ref k s h hk, Option.bind_some, decide_eq_true h, Bool.true_and]
    · rw [if_neg h, decide_eq_false h, Bool.false_and]
  unfold cambiumref16_Value.f mvB bareB
  by_cases h1 : k0 < 0
  · rw [if_pos h1, if_neg (by omega), if_neg (by omega), if_neg (by omega), Bool.false_and]
  rw [if_neg h1]
  by_cases h2 : k0 > 2
  · rw [if_pos h2, if_neg (by omega), if_neg (by omega), if_neg (by omega), Bool.false_and]
  rw [if_neg h2]
  by_cases z0 : k0 = 0
  · rw [if_pos z0, if_neg (show ¬ k0 = 1 by omega), if_neg (show ¬ k0 = 2 by omega), if_pos z0, hr]
    by_cases hn : n = 0
    · rw [if_pos hn, beq_iff_eq.mpr hn]
      cases b
      · rw [if_neg Bool.false_ne_true]; rfl
      · rw [if_pos rfl]; rfl
    · rw [if_neg hn, beq_eq_false_iff_ne.mpr hn]; rfl
  · rw [if_neg z0, if_neg z0]
    by_cases hs : s.toList = ([] : List UInt8)
    · rw [if_pos hs, beq_iff_eq.mpr hs, hr]
      by_cases z1 : k0 = 1
      · rw [if_pos z1, if_neg (show ¬ k0 = 2 by omega), if_pos z1]
        cases b
        · rw [if_neg Bool.false_ne_true]; rfl
        · rw [if_pos rfl]; rfl
      · have z2 : k0 = 2 := by omega
        rw [if_neg z1, if_pos z2, if_neg z1, if_pos z2]
        by_cases hn : n = 0
        · rw [if_pos hn, beq_iff_eq.mpr hn]; rfl
        · rw [if_neg hn, beq_eq_false_iff_ne.mpr hn]; rfl
    · rw [if_neg hs, beq_eq_false_iff_ne.mpr hs]
      by_cases z1 : k0 = 1
      · rw [if_pos z1]; rfl
      · rw [if_neg z1, if_pos (by omega)]; rfl
theorem cmpI_neg (a b : Int) : cmpI b a = -(cmpI a b) := by
  unfold cmpI
  split <;> split <;> (try split) <;> omega
theorem cmpB_neg (x y : List UInt8) : Lib.compareBytes y x = -(Lib.compareBytes x y) := by
  rw [cmpB_lex, cmpB_lex x y]
  cases h1 : lexLt (nums x) (nums y) with
  | true => rw [lexLt_asymm _ _ h1]; rfl
  | false =>
    cases h2 : lexLt (nums y) (nums x) with
    | true => rfl
    | false => rfl
theorem cmpB_self (x : List UInt8) : Lib.compareBytes x x = 0 := by
  rw [cmpB_lex, lexLt_irrefl]
  rfl
theorem cmpI_self (a : Int) : cmpI a a = 0 := by unfold cmpI; rw [if_neg (by omega), if_neg (by omega)]
theorem cmpI_small (a b : Int) : -1 ≤ cmpI a b ∧ cmpI a b ≤ 1 := by unfold cmpI; split <;> (try split) <;> omega
theorem cmpB_small (x y : List UInt8) : -1 ≤ Lib.compareBytes x y ∧ Lib.compareBytes x y ≤ 1 := by rw [cmpB_lex]; split <;> (try split) <;> omega
theorem cmpV_neg (k0 : Int) (s0 : ByteArray) (n0 : Int) (b0 : Bool) (k1 : Int) (s1 : ByteArray) (n1 : Int) (b1 : Bool) : cmpV k1 s1 n1 b1 k0 s0 n0 b0 = (wrap64 (-(cmpV k0 s0 n0 b0 k1 s1 n1 b1).1), (cmpV k0 s0 n0 b0 k1 s1 n1 b1).2) := by
  have hw : ∀ x : Int, -1 ≤ x → x ≤ 1 → wrap64 (-x) = -x := fun x h1 h2 => by unfold wrap64; omega
  unfold cmpV
  by_cases e : k0 = k1
  · subst e
    rw [if_pos rfl, if_pos rfl]
    split
    · rw [cmpB_neg s0.data.toList, hw _ (cmpB_small _ _).1 (cmpB_small _ _).2]
    · split
      · rw [cmpI_neg n0, hw _ (cmpI_small _ _).1 (cmpI_small _ _).2]
      · split
        · rw [cmpI_neg (b2i b0), hw _ (cmpI_small _ _).1 (cmpI_small _ _).2]
        · rw [hw 0 (by omega) (by omega)]; rfl
  · rw [if_neg e, if_neg (fun h => e h.symm), hw 0 (by omega) (by omega)]
    rfl
theorem cmpV_self (k : Int) (s : ByteArray) (n : Int) (b : Bool) : cmpV k s n b k s n b = (0, decide (0 ≤ k) && decide (k ≤ 2)) := by
  unfold cmpV
  rw [if_pos rfl]
  by_cases h0 : k = 0
  · rw [if_pos h0, cmpB_self, h0]; rfl
  rw [if_neg h0]
  by_cases h1 : k = 1
  · rw [if_pos h1, cmpI_self, h1]; rfl
  rw [if_neg h1]
  by_cases h2 : k = 2
  · rw [if_pos h2, cmpI_self, h2]; rfl
  rw [if_neg h2]
  have : (decide (0 ≤ k) && decide (k ≤ 2)) = false := by
    by_cases h : 0 ≤ k
    · rw [decide_eq_false (show ¬ k ≤ 2 by omega), Bool.and_false]
    · rw [decide_eq_false h, Bool.false_and]
  rw [this]
end Go.Proofs.YtkeepnmlphbffaaDoor.Pure

namespace Go.Proofs.YtkeepnmlphbffaaDoor.Pure
open Go.RowKit Go.Proofs.YtkeepnmlphbffaaDoorW.PrintWords Go.Proofs.YtkeepnmlphbffaaDoorW.PrintLast Go.Proofs.YtkeepnmlphbffaaDoorW.PrintMore Go.Proofs.YtkeepnmlphbffaaDoor.Math
open Go.Proofs.YtkeepnmlphbffaaDoor.PSp Go.Proofs.YtkeepnmlphbffaaDoor.Runes Go.Proofs.YtkeepnmlphbffaaDoor.Text Go.Proofs.YtkeepnmlphbffaaDoor.Span Go.Proofs.YtkeepnmlphbffaaDoor.NumFacts
set_option linter.unusedVariables false
set_option linter.unusedSimpArgs false
def Tri (a b c : Int) : Prop := (a = -1 ∨ a = 0 ∨ a = 1) ∧ (b = -1 ∨ b = 0 ∨ b = 1) ∧ (c = -1 ∨ c = 0 ∨ c = 1) ∧ (a ≤ 0 → b ≤ 0 → c ≤ 0) ∧ (a = 0 → b = 0 → c = 0)
theorem tri_int (x y z : Int) : Tri (cmpI x y) (cmpI y z) (cmpI x z) := by
  unfold Tri cmpI
  refine ⟨?_, ?_, ?_, ?_, ?_⟩ <;> (repeat' split) <;> omega
theorem cmpB_cases (x y : List UInt8) : (Lib.compareBytes x y = -1 ∧ lexLt (nums x) (nums y) = true) ∨ (Lib.compareBytes x y = 0 ∧ nums x = nums y) ∨ (Lib.compareBytes x y = 1 ∧ lexLt (nums y) (nums x) = true) := by
  rw [cmpB_lex]
  rcases lexLt_tri (nums x) (nums y) with h | h | h
  · rw [if_pos h]; exact .inl ⟨rfl, h⟩
  · rw [h, if_neg (by rw [lexLt_irrefl]; exact Bool.false_ne_true), if_neg (by rw [lexLt_irrefl]; exact Bool.false_ne_true)]
    exact .inr (.inl ⟨rfl, rfl⟩)
  · rw [if_neg (by rw [lexLt_asymm _ _ h]; exact Bool.false_ne_true), if_pos h]
    exact .inr (.inr ⟨rfl, h⟩)
theorem tri_txt (x y z : List UInt8) : Tri (Lib.compareBytes x y) (Lib.compareBytes y z) (Lib.compareBytes x z) := by
  have hno : ∀ p q, lexLt p q = true → lexLt q p = true → False := fun p q h1 h2 => by rw [lexLt_asymm _ _ h1] at h2; cases h2
  have hir : ∀ p q, lexLt p q = true → p = q → False := fun p q h e => by rw [e, lexLt_irrefl] at h; cases h
  unfold Tri
  rcases cmpB_cases x y with ⟨e1, h1⟩ | ⟨e1, h1⟩ | ⟨e1, h1⟩ <;> rcases cmpB_cases y z with ⟨e2, h2⟩ | ⟨e2, h2⟩ | ⟨e2, h2⟩ <;> rcases cmpB_cases x z with ⟨e3, h3⟩ | ⟨e3, h3⟩ | ⟨e3, h3⟩ <;> rw [e1, e2, e3]
  all_goals first
    | (refine ⟨?_, ?_, ?_, ?_, ?_⟩ <;> omega)
    | (exfalso; exact hno _ _ (lexLt_trans _ _ _ h1 h2) h3)
    | (exfalso; rw [← h2] at h3; exact hno _ _ h1 h3)
    | (exfalso; rw [h1] at h3; exact hno _ _ h2 h3)
    | (exfalso; rw [h1, h2] at h3; exact hir _ _ h3 rfl)
theorem bool_tri (a b : Bool) : cmpI (b2i a) (b2i b) = -1 ∨ cmpI (b2i a) (b2i b) = 0 ∨ cmpI (b2i a) (b2i b) = 1 := (tri_int _ _ 0).1
theorem mv_kind (k : Int) (s : ByteArray) (n : Int) (b : Bool) (h : mvB k s n b = true) : k = 0 ∨ k = 1 ∨ k = 2 := by
  unfold mvB bareB at h
  by_cases h0 : k = 0
  · exact .inl h0
  by_cases h1 : k = 1
  · exact .inr (.inl h1)
  by_cases h2 : k = 2
  · exact .inr (.inr h2)
  rw [if_neg h0, if_neg h1, if_neg h2, Bool.false_and] at h
  cases h
/-- Three values that may be. -/
theorem order_facts (k0 : Int) (s0 : ByteArray) (n0 : Int) (b0 : Bool) (k1 : Int) (s1 : ByteArray) (n1 : Int) (b1 : Bool) (k2 : Int) (s2 : ByteArray) (n2 : Int) (b2 : Bool)
    (h0 : k0 = 0 ∨ k0 = 1 ∨ k0 = 2) (h1 : k1 = 0 ∨ k1 = 1 ∨ k1 = 2) (h2 : k2 = 0 ∨ k2 = 1 ∨ k2 = 2) :
    ∃ a b c X Y Z, cmpV k0 s0 n0 b0 k1 s1 n1 b1 = (a, X) ∧ cmpV k1 s1 n1 b1 k2 s2 n2 b2 = (b, Y) ∧ cmpV k0 s0 n0 b0 k2 s2 n2 b2 = (c, Z) ∧ X = decide (k0 = k1) ∧ Y = decide (k1 = k2) ∧ Z = decide (k0 = k2) ∧
      (a = -1 ∨ a = 0 ∨ a = 1) ∧ (b = -1 ∨ b = 0 ∨ b = 1) ∧ (c = -1 ∨ c = 0 ∨ c = 1) ∧ (X = true → Y = true → Tri a b c) := by
  have hsm : ∀ p q : Int, p = 0 ∨ p = 1 ∨ p = 2 → ∀ s n b s' n' b', ∃ v, cmpV p s n b q s' n' b' = (v, decide (p = q)) ∧ (v = -1 ∨ v = 0 ∨ v = 1) ∧ (p = q → v = if p = 0 then Lib.compareBytes s.data.toList s'.data.toList else if p = 1 then cmpI n n' else cmpI (b2i b) (b2i b')) := by
    intro p q hp s n b s' n' b'
    unfold cmpV
    by_cases e : p = q
    · rw [if_pos e, decide_eq_true e]
      rcases hp with rfl | rfl | rfl
      · exact ⟨_, rfl, (tri_txt _ _ []).1, fun _ => rfl⟩
      · exact ⟨_, rfl, (tri_int _ _ 0).1, fun _ => rfl⟩
      · exact ⟨_, rfl, (tri_int _ _ 0).1, fun _ => rfl⟩
    · rw [if_neg e, decide_eq_false e]
      exact ⟨0, rfl, .inr (.inl rfl), fun h => absurd h e⟩
  obtain ⟨a, ea, ta, va⟩ := hsm k0 k1 h0 s0 n0 b0 s1 n1 b1
  obtain ⟨b, eb, tb, vb⟩ := hsm k1 k2 h1 s1 n1 b1 s2 n2 b2
  obtain ⟨c, ec, tc, vc⟩ := hsm k0 k2 h0 s0 n0 b0 s2 n2 b2
  refine ⟨a, b, c, _, _, _, ea, eb, ec, rfl, rfl, rfl, ta, tb, tc, fun hx hy => ?_⟩
  have e1 := of_decide_eq_true hx
  have e2 := of_decide_eq_true hy
  rw [va e1, vb e2, vc (e1.trans e2), ← e1]
  rcases h0 with rfl | rfl | rfl
  · exact tri_txt _ _ _
  · exact tri_int _ _ _
  · exact tri_int _ _ _
end Go.Proofs.YtkeepnmlphbffaaDoor.Pure

namespace Go.Proofs.YtkeepnmlphbffaaDoor.Walk
open Go.RowKit Go.Proofs.YtkeepnmlphbffaaDoorW.PrintWords Go.Proofs.YtkeepnmlphbffaaDoorW.PrintLast Go.Proofs.YtkeepnmlphbffaaDoorW.PrintMore Go.Proofs.YtkeepnmlphbffaaDoor.PSp Go.Proofs.YtkeepnmlphbffaaDoor.Math Go.Proofs.YtkeepnmlphbffaaDoor.Open Go.Proofs.YtkeepnmlphbffaaDoor.Span Go.Proofs.YtkeepnmlphbffaaDoor.Pure
set_option linter.unusedVariables false
set_option linter.unusedSimpArgs false
/-- The cells of three values. -/
def cells3 (x y z : S23) : Array Value := #[.int .i64 x.f0, .string x.f1, .int .i64 x.f2, .bool x.f3, .int .i64 y.f0, .string y.f1, .int .i64 y.f2, .bool y.f3, .int .i64 z.f0, .string z.f1, .int .i64 z.f2, .bool z.f3]
theorem three_open {w : World} {l : List S23} {cs : Array Value} {hs : 0 < k23.sz} (h : (Kd.arr 3 k23 hs).K w l cs.toList) : ∃ x y z, l = [x, y, z] ∧ cs = cells3 x y z := by
  obtain ⟨hl, hlen, hr⟩ := h
  have hsz : k23.sz = 4 := rfl
  match l, hl with
  | [x, y, z], _ =>
    have c0 := k23_open (hr 0 x rfl)
    have c1 := k23_open (hr 1 y rfl)
    have c2 := k23_open (hr 2 z rfl)
    rw [hsz] at c0 c1 c2 hlen
    have hlen' : cs.toList.length = 12 := hlen
    refine ⟨x, y, z, rfl, ?_⟩
    have e : cs.toList = (cs.toList.drop (0 * 4)).take 4 ++ ((cs.toList.drop (1 * 4)).take 4 ++ (cs.toList.drop (2 * 4)).take 4) := by
      have a1 : (cs.toList.drop (2 * 4)).take 4 = cs.toList.drop 8 := List.take_of_length_le (by rw [List.length_drop]; omega)
      have a2 : (cs.toList.drop (1 * 4)).take 4 ++ cs.toList.drop 8 = cs.toList.drop 4 := by
        rw [show cs.toList.drop 8 = (cs.toList.drop (1 * 4)).drop 4 by rw [List.drop_drop], List.take_append_drop]
      have a3 : (cs.toList.drop (0 * 4)).take 4 ++ cs.toList.drop 4 = cs.toList := by
        rw [Nat.zero_mul, List.drop_zero, List.take_append_drop]
      rw [a1, a2, a3]
    rw [c0, c1, c2] at e
    apply Array.ext'
    rw [e]
    rfl
set_option maxHeartbeats 4000000 in
set_option maxRecDepth 100000 in
theorem order_calls (x y z : S23) (W : World) (hT : Tabs W) :
    Calls Tryd.prog 4 #[.agg (cells3 x y z)] W fun e w' => e = .returned (.bool true) ∧ Below W.heap.size W w' := by
  have hu29 := Tryd.underlying29
  have hu23 := Tryd.underlying23
  have haw := cambiumlaw16_awake.calls 2 true (W.alloc (.cells (cells3 x y z) 29)) (awakeS 0) (tabs_below hT (below_alloc (Below.refl _ _) _))
  have HAW := Lib.hid haw
  clear hT haw
  unfold cells3 at *
  go_enter Tryd.func4, Tryd.ntmps4
  go_wp2_with fail
  refine HAW.out.mono ?_
  rintro e w1 ⟨rfl, hb⟩
  have HB1 := Lib.hid (below_step (below_alloc (Below.refl W.heap.size W) _) hb)
  have HC1 := Lib.hid (block_below (heap_alloc_new W _) hb)
  clear hb HAW
  go_wp2
  go_loopw [3] (fun i wr => ∃ k : Nat, k ≤ 3 ∧ i = .int .i64 k ∧ Hid (Below W.heap.size W wr) ∧ Hid (wr.heap[W.heap.size]? = some (.cells (cells3 x y z) 29)) ∧ (0 < k → x.f0 = 0 ∨ x.f0 = 1 ∨ x.f0 = 2) ∧ (1 < k → y.f0 = 0 ∨ y.f0 = 1 ∨ y.f0 = 2) ∧ (2 < k → z.f0 = 0 ∨ z.f0 = 1 ∨ z.f0 = 2)) (fun i _ => 3 - (intOf i).toNat)
  case atStart => exact ⟨0, by omega, rfl, HB1, HC1, fun h => absurd h (by omega), fun h => absurd h (by omega), fun h => absurd h (by omega)⟩
  case round =>
    obtain ⟨k, hk, rfl, HB, HC, H0, H1, H2⟩ := hrel
    clear HB1 HC1
    have hk' : k = 0 ∨ k = 1 ∨ k = 2 ∨ k = 3 := by omega
    rcases hk' with rfl | rfl | rfl | rfl
    · clear H0 H1 H2
      have hz1 : wr.cell? ⟨W.heap.size, 1, none⟩ = some (.string x.f1) := (blk_cell HC.out 1).trans rfl
      by_cases hbig : (x.f1.size : Int) > 1000
      · have d1 : decide ((x.f1.size : Int) > 1000) = true := decide_eq_true hbig
        have d2 : decide (1000 < x.f1.size) = true := decide_eq_true (by omega)
        clear hbig
        go_wp2
        go_ret
        exact ⟨rfl, HB.out⟩
      · have d1 : decide ((x.f1.size : Int) > 1000) = false := decide_eq_false hbig
        have d2 : decide (1000 < x.f1.size) = false := decide_eq_false (by omega)
        have d3 : decide ((x.f1.size : Int) ≤ 1000) = true := decide_eq_true (by omega)
        clear hbig
        have hz0 : wr.cell? ⟨W.heap.size, 0, none⟩ = some (.int .i64 x.f0) := (blk_cell HC.out 0).trans rfl
        have hz2 : wr.cell? ⟨W.heap.size, 2, none⟩ = some (.int .i64 x.f2) := (blk_cell HC.out 2).trans rfl
        have hz3 : wr.cell? ⟨W.heap.size, 3, none⟩ = some (.bool x.f3) := (blk_cell HC.out 3).trans rfl
        cases hmv : mvB x.f0 x.f1 x.f2 x.f3 with
        | false =>
          have HV := Lib.hid (cambiumref16_Value.calls 600 x.f0 x.f1 x.f2 x.f3 false wr (by rw [refval 600 _ _ _ _ (by omega), hmv]))
          clear hmv
          go_wp2_with fail
          refine HV.out.mono ?_
          rintro e w2 ⟨rfl, hb⟩
          have HB2 := Lib.hid (below_step HB.out hb)
          clear hb
          go_wp2
          go_ret
          exact ⟨rfl, HB2.out⟩
        | true =>
          have HV := Lib.hid (cambiumref16_Value.calls 600 x.f0 x.f1 x.f2 x.f3 true wr (by rw [refval 600 _ _ _ _ (by omega), hmv]))
          have HK := Lib.hid (mv_kind _ _ _ _ hmv)
          clear hmv
          go_wp2_with fail
          refine HV.out.mono ?_
          rintro e w2 ⟨rfl, hb⟩
          have HB2 := Lib.hid (below_step HB.out hb)
          have HC2 := Lib.hid (block_below HC.out hb)
          clear hb
          go_wp2
          go_round
          case rel => exact ⟨1, by omega, rfl, HB2, HC2, fun _ => HK.out, fun h => absurd h (by omega), fun h => absurd h (by omega)⟩
          case measure => decide
    · clear H1 H2
      have hz1 : wr.cell? ⟨W.heap.size, 5, none⟩ = some (.string y.f1) := (blk_cell HC.out 5).trans rfl
      by_cases hbig : (y.f1.size : Int) > 1000
      · have d1 : decide ((y.f1.size : Int) > 1000) = true := decide_eq_true hbig
        have d2 : decide (1000 < y.f1.size) = true := decide_eq_true (by omega)
        clear hbig
        go_wp2
        go_ret
        exact ⟨rfl, HB.out⟩
      · have d1 : decide ((y.f1.size : Int) > 1000) = false := decide_eq_false hbig
        have d2 : decide (1000 < y.f1.size) = false := decide_eq_false (by omega)
        have d3 : decide ((y.f1.size : Int) ≤ 1000) = true := decide_eq_true (by omega)
        clear hbig
        have hz0 : wr.cell? ⟨W.heap.size, 4, none⟩ = some (.int .i64 y.f0) := (blk_cell HC.out 4).trans rfl
        have hz2 : wr.cell? ⟨W.heap.size, 6, none⟩ = some (.int .i64 y.f2) := (blk_cell HC.out 6).trans rfl
        have hz3 : wr.cell? ⟨W.heap.size, 7, none⟩ = some (.bool y.f3) := (blk_cell HC.out 7).trans rfl
        cases hmv : mvB y.f0 y.f1 y.f2 y.f3 with
        | false =>
          have HV := Lib.hid (cambiumref16_Value.calls 600 y.f0 y.f1 y.f2 y.f3 false wr (by rw [refval 600 _ _ _ _ (by omega), hmv]))
          clear hmv
          go_wp2_with fail
          refine HV.out.mono ?_
          rintro e w2 ⟨rfl, hb⟩
          have HB2 := Lib.hid (below_step HB.out hb)
          clear hb
          go_wp2
          go_ret
          exact ⟨rfl, HB2.out⟩
        | true =>
          have HV := Lib.hid (cambiumref16_Value.calls 600 y.f0 y.f1 y.f2 y.f3 true wr (by rw [refval 600 _ _ _ _ (by omega), hmv]))
          have HK := Lib.hid (mv_kind _ _ _ _ hmv)
          clear hmv
          go_wp2_with fail
          refine HV.out.mono ?_
          rintro e w2 ⟨rfl, hb⟩
          have HB2 := Lib.hid (below_step HB.out hb)
          have HC2 := Lib.hid (block_below HC.out hb)
          clear hb
          go_wp2
          go_round
          case rel => exact ⟨2, by omega, rfl, HB2, HC2, fun _ => H0 (by omega), fun _ => HK.out, fun h => absurd h (by omega)⟩
          case measure => decide
    · clear H2
      have hz1 : wr.cell? ⟨W.heap.size, 9, none⟩ = some (.string z.f1) := (blk_cell HC.out 9).trans rfl
      by_cases hbig : (z.f1.size : Int) > 1000
      · have d1 : decide ((z.f1.size : Int) > 1000) = true := decide_eq_true hbig
        have d2 : decide (1000 < z.f1.size) = true := decide_eq_true (by omega)
        clear hbig
        go_wp2
        go_ret
        exact ⟨rfl, HB.out⟩
      · have d1 : decide ((z.f1.size : Int) > 1000) = false := decide_eq_false hbig
        have d2 : decide (1000 < z.f1.size) = false := decide_eq_false (by omega)
        have d3 : decide ((z.f1.size : Int) ≤ 1000) = true := decide_eq_true (by omega)
        clear hbig
        have hz0 : wr.cell? ⟨W.heap.size, 8, none⟩ = some (.int .i64 z.f0) := (blk_cell HC.out 8).trans rfl
        have hz2 : wr.cell? ⟨W.heap.size, 10, none⟩ = some (.int .i64 z.f2) := (blk_cell HC.out 10).trans rfl
        have hz3 : wr.cell? ⟨W.heap.size, 11, none⟩ = some (.bool z.f3) := (blk_cell HC.out 11).trans rfl
        cases hmv : mvB z.f0 z.f1 z.f2 z.f3 with
        | false =>
          have HV := Lib.hid (cambiumref16_Value.calls 600 z.f0 z.f1 z.f2 z.f3 false wr (by rw [refval 600 _ _ _ _ (by omega), hmv]))
          clear hmv
          go_wp2_with fail
          refine HV.out.mono ?_
          rintro e w2 ⟨rfl, hb⟩
          have HB2 := Lib.hid (below_step HB.out hb)
          clear hb
          go_wp2
          go_ret
          exact ⟨rfl, HB2.out⟩
        | true =>
          have HV := Lib.hid (cambiumref16_Value.calls 600 z.f0 z.f1 z.f2 z.f3 true wr (by rw [refval 600 _ _ _ _ (by omega), hmv]))
          have HK := Lib.hid (mv_kind _ _ _ _ hmv)
          clear hmv
          go_wp2_with fail
          refine HV.out.mono ?_
          rintro e w2 ⟨rfl, hb⟩
          have HB2 := Lib.hid (below_step HB.out hb)
          have HC2 := Lib.hid (block_below HC.out hb)
          clear hb
          go_wp2
          go_round
          case rel => exact ⟨3, by omega, rfl, HB2, HC2, fun _ => H0 (by omega), fun _ => H1 (by omega), fun _ => HK.out⟩
          case measure => decide
    · have p0 := H0 (by omega)
      have p1 := H1 (by omega)
      have p2 := H2 (by omega)
      clear H0 H1 H2 hk
      obtain ⟨a, b, c, X, Y, Z, ea, eb, ec, hX, hY, hZ, ta, tb, tc, htri⟩ := order_facts x.f0 x.f1 x.f2 x.f3 y.f0 y.f1 y.f2 y.f3 z.f0 z.f1 z.f2 z.f3 p0 p1 p2
      have hc1 : ∀ w, Calls Tryd.prog 9 #[.agg #[.int .i64 x.f0, .string x.f1, .int .i64 x.f2, .bool x.f3], .agg #[.int .i64 y.f0, .string y.f1, .int .i64 y.f2, .bool y.f3]] w fun e w' => e = .returned (.tuple #[.int .i64 a, .bool X]) ∧ Below w.heap.size w w' := fun w => by
        have h := compare_calls x.f0 x.f1 x.f2 x.f3 y.f0 y.f1 y.f2 y.f3 w
        rw [ea] at h; exact h
      have hc2 : ∀ w, Calls Tryd.prog 9 #[.agg #[.int .i64 y.f0, .string y.f1, .int .i64 y.f2, .bool y.f3], .agg #[.int .i64 z.f0, .string z.f1, .int .i64 z.f2, .bool z.f3]] w fun e w' => e = .returned (.tuple #[.int .i64 b, .bool Y]) ∧ Below w.heap.size w w' := fun w => by
        have h := compare_calls y.f0 y.f1 y.f2 y.f3 z.f0 z.f1 z.f2 z.f3 w
        rw [eb] at h; exact h
      have hc3 : ∀ w, Calls Tryd.prog 9 #[.agg #[.int .i64 x.f0, .string x.f1, .int .i64 x.f2, .bool x.f3], .agg #[.int .i64 z.f0, .string z.f1, .int .i64 z.f2, .bool z.f3]] w fun e w' => e = .returned (.tuple #[.int .i64 c, .bool Z]) ∧ Below w.heap.size w w' := fun w => by
        have h := compare_calls x.f0 x.f1 x.f2 x.f3 z.f0 z.f1 z.f2 z.f3 w
        rw [ec] at h; exact h
      have HX := Lib.hid hX
      have HY := Lib.hid hY
      have HZ := Lib.hid hZ
      have HTR := Lib.hid htri
      have HTA := Lib.hid ta
      have HTB := Lib.hid tb
      have HTC := Lib.hid tc
      have HC1 := Lib.hid hc1
      have HC2 := Lib.hid hc2
      have HC3 := Lib.hid hc3
      clear hX hY hZ htri ta tb tc hc1 hc2 hc3 ea eb ec p0 p1 p2
      have hx0_wr : wr.cell? ⟨W.heap.size, 0, none⟩ = some (.int .i64 x.f0) := (blk_cell HC.out 0).trans rfl
      have hx1_wr : wr.cell? ⟨W.heap.size, 1, none⟩ = some (.string x.f1) := (blk_cell HC.out 1).trans rfl
      have hx2_wr : wr.cell? ⟨W.heap.size, 2, none⟩ = some (.int .i64 x.f2) := (blk_cell HC.out 2).trans rfl
      have hx3_wr : wr.cell? ⟨W.heap.size, 3, none⟩ = some (.bool x.f3) := (blk_cell HC.out 3).trans rfl
      have hy0_wr : wr.cell? ⟨W.heap.size, 4, none⟩ = some (.int .i64 y.f0) := (blk_cell HC.out 4).trans rfl
      have hy1_wr : wr.cell? ⟨W.heap.size, 5, none⟩ = some (.string y.f1) := (blk_cell HC.out 5).trans rfl
      have hy2_wr : wr.cell? ⟨W.heap.size, 6, none⟩ = some (.int .i64 y.f2) := (blk_cell HC.out 6).trans rfl
      have hy3_wr : wr.cell? ⟨W.heap.size, 7, none⟩ = some (.bool y.f3) := (blk_cell HC.out 7).trans rfl
      go_wp2_with fail
      refine (HC1.out _).mono ?_
      rintro e v1 ⟨rfl, hb⟩
      have HB3 := Lib.hid (below_step HB.out hb)
      have HK3 := Lib.hid (block_below HC.out hb)
      clear hb
      clear hx0_wr hx1_wr hx2_wr hx3_wr hy0_wr hy1_wr hy2_wr hy3_wr
      have hy0_v1 : v1.cell? ⟨W.heap.size, 4, none⟩ = some (.int .i64 y.f0) := (blk_cell HK3.out 4).trans rfl
      have hy1_v1 : v1.cell? ⟨W.heap.size, 5, none⟩ = some (.string y.f1) := (blk_cell HK3.out 5).trans rfl
      have hy2_v1 : v1.cell? ⟨W.heap.size, 6, none⟩ = some (.int .i64 y.f2) := (blk_cell HK3.out 6).trans rfl
      have hy3_v1 : v1.cell? ⟨W.heap.size, 7, none⟩ = some (.bool y.f3) := (blk_cell HK3.out 7).trans rfl
      have hz0_v1 : v1.cell? ⟨W.heap.size, 8, none⟩ = some (.int .i64 z.f0) := (blk_cell HK3.out 8).trans rfl
      have hz1_v1 : v1.cell? ⟨W.heap.size, 9, none⟩ = some (.string z.f1) := (blk_cell HK3.out 9).trans rfl
      have hz2_v1 : v1.cell? ⟨W.heap.size, 10, none⟩ = some (.int .i64 z.f2) := (blk_cell HK3.out 10).trans rfl
      have hz3_v1 : v1.cell? ⟨W.heap.size, 11, none⟩ = some (.bool z.f3) := (blk_cell HK3.out 11).trans rfl
      go_wp2_with fail
      refine (HC2.out _).mono ?_
      rintro e v2 ⟨rfl, hb⟩
      have HB4 := Lib.hid (below_step HB3.out hb)
      have HK4 := Lib.hid (block_below HK3.out hb)
      clear hb
      clear hy0_v1 hy1_v1 hy2_v1 hy3_v1 hz0_v1 hz1_v1 hz2_v1 hz3_v1
      have hx0_v2 : v2.cell? ⟨W.heap.size, 0, none⟩ = some (.int .i64 x.f0) := (blk_cell HK4.out 0).trans rfl
      have hx1_v2 : v2.cell? ⟨W.heap.size, 1, none⟩ = some (.string x.f1) := (blk_cell HK4.out 1).trans rfl
      have hx2_v2 : v2.cell? ⟨W.heap.size, 2, none⟩ = some (.int .i64 x.f2) := (blk_cell HK4.out 2).trans rfl
      have hx3_v2 : v2.cell? ⟨W.heap.size, 3, none⟩ = some (.bool x.f3) := (blk_cell HK4.out 3).trans rfl
      have hz0_v2 : v2.cell? ⟨W.heap.size, 8, none⟩ = some (.int .i64 z.f0) := (blk_cell HK4.out 8).trans rfl
      have hz1_v2 : v2.cell? ⟨W.heap.size, 9, none⟩ = some (.string z.f1) := (blk_cell HK4.out 9).trans rfl
      have hz2_v2 : v2.cell? ⟨W.heap.size, 10, none⟩ = some (.int .i64 z.f2) := (blk_cell HK4.out 10).trans rfl
      have hz3_v2 : v2.cell? ⟨W.heap.size, 11, none⟩ = some (.bool z.f3) := (blk_cell HK4.out 11).trans rfl
      go_wp2_with fail
      refine (HC3.out _).mono ?_
      rintro e v3 ⟨rfl, hb⟩
      have HB5 := Lib.hid (below_step HB4.out hb)
      have HK5 := Lib.hid (block_below HK4.out hb)
      clear hb
      clear hx0_v2 hx1_v2 hx2_v2 hx3_v2 hz0_v2 hz1_v2 hz2_v2 hz3_v2
      have hx0_v3 : v3.cell? ⟨W.heap.size, 0, none⟩ = some (.int .i64 x.f0) := (blk_cell HK5.out 0).trans rfl
      have hx1_v3 : v3.cell? ⟨W.heap.size, 1, none⟩ = some (.string x.f1) := (blk_cell HK5.out 1).trans rfl
      have hx2_v3 : v3.cell? ⟨W.heap.size, 2, none⟩ = some (.int .i64 x.f2) := (blk_cell HK5.out 2).trans rfl
      have hx3_v3 : v3.cell? ⟨W.heap.size, 3, none⟩ = some (.bool x.f3) := (blk_cell HK5.out 3).trans rfl
      have hz0_v3 : v3.cell? ⟨W.heap.size, 8, none⟩ = some (.int .i64 z.f0) := (blk_cell HK5.out 8).trans rfl
      have hz1_v3 : v3.cell? ⟨W.heap.size, 9, none⟩ = some (.string z.f1) := (blk_cell HK5.out 9).trans rfl
      have hz2_v3 : v3.cell? ⟨W.heap.size, 10, none⟩ = some (.int .i64 z.f2) := (blk_cell HK5.out 10).trans rfl
      have hz3_v3 : v3.cell? ⟨W.heap.size, 11, none⟩ = some (.bool z.f3) := (blk_cell HK5.out 11).trans rfl
      have hX := HX.out
      have hY := HY.out
      have hZ := HZ.out
      have htri := HTR.out
      have ta := HTA.out
      have tb := HTB.out
      have tc := HTC.out
      clear HX HY HZ HTR HTA HTB HTC HC1 HC2 HC3
      have hkz : (x.f0 == z.f0) = Z := by rw [hZ]; exact Bool.eq_iff_iff.mpr (by rw [beq_iff_eq, decide_eq_true_eq])
      cases X with
      | false =>
        clear hX hY hZ htri ta tb tc
        cases Z <;> (go_wp2; go_ret; exact ⟨rfl, HB5.out⟩)
      | true =>
        cases Y with
        | false =>
          clear hX hY hZ htri ta tb tc
          cases Z <;> (go_wp2; go_ret; exact ⟨rfl, HB5.out⟩)
        | true =>
          have hZt : Z = true := by rw [hZ]; exact decide_eq_true ((of_decide_eq_true hX.symm).trans (of_decide_eq_true hY.symm))
          subst hZt
          obtain ⟨_, _, _, t1, t2⟩ := htri rfl rfl
          clear hX hY hZ htri
          rcases ta with rfl | rfl | rfl <;> rcases tb with rfl | rfl | rfl <;> rcases tc with rfl | rfl | rfl <;> first | (exfalso; omega) | (clear t1 t2; go_wp2; go_ret; exact ⟨rfl, HB5.out⟩)
theorem SpanOrder (W : World) (l : List S23) (cs : Array Value) (hk : (Kd.arr 3 k23 (of_decide_eq_true (by kernel_rfl))).K W l cs.toList) (hg : List.length l = 3 ∧ ∀ x_ ∈ l, G23 x_) (hT : Tabs W) :
    Calls Tryd.prog 4 #[.agg cs] W fun e w' => e = .returned (.bool true) ∧ Below W.heap.size W w' := by
  obtain ⟨x, y, z, rfl, rfl⟩ := three_open hk
  exact order_calls x y z W hT
end Go.Proofs.YtkeepnmlphbffaaDoor.Walk

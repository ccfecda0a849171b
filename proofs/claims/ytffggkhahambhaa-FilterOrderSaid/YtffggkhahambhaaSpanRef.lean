/- The order of rows of bytes, in plain Lean. -/
import Derived.Test.YtffggkhahambhaaRd
import Derived.Test.YtffggkhahambhaaUtf
import Derived.Test.YtffggkhahambhaaPAllx7
import Derived.Lib.ValidLaws
import Derived.Test.YtffggkhahambhaaPAllx8
import Derived.Test.YtffggkhahambhaaPAllx15
import Derived.Test.YtffggkhahambhaaPAllx14
import Derived.Test.YtffggkhahambhaaPAllx16
import Derived.Test.YtffggkhahambhaaPAllx9
namespace Go.Proofs.Ytffggkhahambhaa.Math
open Go.RowKit Go.Proofs.YtffggkhahambhaaW.PrintWords
set_option linter.unusedVariables false

/-- Does one row come ahead of another one? -/
def lexLt : List Int → List Int → Bool
  | [], [] => false
  | [], _ :: _ => true
  | _ :: _, [] => false
  | a :: s, b :: t => if a = b then lexLt s t else decide (a < b)
theorem lexLt_irrefl : ∀ a : List Int, lexLt a a = false
  | [] => rfl
  | x :: s => by simp only [lexLt, if_true]; exact lexLt_irrefl s
theorem lexLt_tri : ∀ a b : List Int, lexLt a b = true ∨ a = b ∨ lexLt b a = true
  | [], [] => .inr (.inl rfl)
  | [], _ :: _ => .inl rfl
  | _ :: _, [] => .inr (.inr rfl)
  | a :: s, b :: t => by
    simp only [lexLt]
    by_cases h : a = b
    · subst h
      rw [if_pos rfl, if_pos rfl]
      rcases lexLt_tri s t with h | h | h
      · exact .inl h
      · exact .inr (.inl (by rw [h]))
      · exact .inr (.inr h)
    · rw [if_neg h, if_neg (fun e => h e.symm)]
      rcases Int.lt_or_lt_of_ne h with h1 | h1
      · exact .inl (decide_eq_true h1)
      · exact .inr (.inr (decide_eq_true h1))
theorem lexLt_asymm : ∀ a b : List Int, lexLt a b = true → lexLt b a = false
  | [], [] => fun h => by cases h
  | [], _ :: _ => fun _ => rfl
  | _ :: _, [] => fun h => by cases h
  | a :: s, b :: t => by
    simp only [lexLt]
    by_cases h : a = b
    · subst h
      rw [if_pos rfl, if_pos rfl]
      exact lexLt_asymm s t
    · rw [if_neg h, if_neg (fun e => h e.symm)]
      intro h1
      have := of_decide_eq_true h1
      exact decide_eq_false (by omega)
theorem lexLt_trans : ∀ a b c : List Int, lexLt a b = true → lexLt b c = true → lexLt a c = true
  | [], [], c => fun h _ => by cases h
  | [], _ :: _, [] => fun _ h => by cases h
  | [], _ :: _, _ :: _ => fun _ _ => rfl
  | _ :: _, [], c => fun h _ => by cases h
  | _ :: _, _ :: _, [] => fun _ h => by cases h
  | a :: s, b :: t, c :: u => by
    simp only [lexLt]
    by_cases h : a = b
    · subst h
      rw [if_pos rfl]
      by_cases h2 : a = c
      · subst h2; rw [if_pos rfl, if_pos rfl]; exact lexLt_trans s t u
      · rw [if_neg h2, if_neg h2]; exact fun _ h => h
    · rw [if_neg h]
      intro h1
      by_cases h2 : b = c
      · subst h2; rw [if_pos rfl, if_neg h]; exact fun _ => h1
      · rw [if_neg h2]
        intro h3
        have a1 := of_decide_eq_true h1
        have a2 := of_decide_eq_true h3
        rw [if_neg (by omega)]
        exact decide_eq_true (by omega)
end Go.Proofs.Ytffggkhahambhaa.Math

namespace Go.Proofs.Ytffggkhahambhaa.Runes
open Go.RowKit Go.Proofs.Ytffggkhahambhaa.PAll Go.Proofs.YtffggkhahambhaaW.PrintWords Go.Proofs.YtffggkhahambhaaW.PrintLast Go.Proofs.YtffggkhahambhaaW.PrintMore Go.Proofs.Ytffggkhahambhaa.Math
set_option linter.unusedVariables false

theorem bt_nb (s : ByteArray) (i : Nat) (h : i < s.size) : bt s (i : Int) = (nb s i : Int) := by
  unfold bt nb
  rw [dif_pos (by simpa using h)]
  simp only [Int.toNat_natCast]
  rw [ByteArray.get!, getElem!_pos s.data i h]
  rfl

theorem tdiv64 {x : Int} (h : 0 ≤ x) (h1 : x < 256) : Int.tdiv x 64 % 256 = x / 64 := by rw [Int.tdiv_eq_ediv_of_nonneg h]; omega
theorem l0_step (k : Nat) (t : ByteArray) (n : Nat) (v least : Int) (i : Nat) (hi : i < n) (hsz : n ≤ t.size) (hn : n ≤ 4) (h0 : 0 ≤ v) (h1 : v ≤ 16777216) :
    cambiumref02_Rune.l0 (k + 1) t (n : Int) v least (i : Int) = if nb t i / 64 = 2 then cambiumref02_Rune.l0 k t (n : Int) (v * 64 + ((nb t i % 64 : Nat) : Int)) least ((i + 1 : Nat) : Int) else some (65533, 1) := by
  have hb := nb_lt t i
  rw [cambiumref02_Rune.l0, if_pos (by omega), if_pos (by omega), if_pos (by omega), bt_nb t i (by omega), tdiv64 (by omega) (by omega), wrap_id (x := (nb t i : Int)) (by omega) (by omega), Int.tmod_eq_emod_of_nonneg (by omega), wrap_id (x := v * 64) (by omega) (by omega), wrap_id (x := (i : Int) + 1) (by omega) (by omega), wrap_id (by omega) (by omega)]
  by_cases h : nb t i / 64 = 2
  · rw [if_pos (by omega), if_pos h]; congr 1
  · rw [if_neg (by omega), if_neg h]
def okRune (v least : Int) : Bool := decide (least ≤ v ∧ v ≤ 1114111 ∧ ¬ (55296 ≤ v ∧ v < 57344))
theorem l0_end (k : Nat) (t : ByteArray) (n : Nat) (v least : Int) : cambiumref02_Rune.l0 (k + 1) t (n : Int) v least (n : Int) = if okRune v least = true then some (v, (n : Int)) else some (65533, 1) := by
  rw [cambiumref02_Rune.l0, if_neg (by omega)]
  unfold okRune
  by_cases h1 : v < least
  · rw [if_pos h1, if_neg (by simp; omega)]
  · by_cases h2 : v > 1114111
    · rw [if_neg h1, if_pos h2, if_neg (by simp; omega)]
    · by_cases h3 : v ≥ 55296
      · by_cases h4 : v < 57344
        · rw [if_neg h1, if_neg h2, if_pos h3, if_pos h4, if_neg (by simp; omega)]
        · rw [if_neg h1, if_neg h2, if_pos h3, if_neg h4, if_pos (by simp; omega)]
      · rw [if_neg h1, if_neg h2, if_neg h3, if_pos (by simp; omega)]
theorem j3_eq (k : Nat) (t : ByteArray) (n : Nat) (v least : Int) : cambiumref02_Rune.j3 (k + 1) t (n : Int) v least = if t.size < n then some (65533, 1) else cambiumref02_Rune.l0 k t (n : Int) v least 1 := by
  rw [cambiumref02_Rune.j3]
  by_cases h : t.size < n
  · rw [if_pos (by omega), if_pos h]
  · rw [if_neg (by omega), if_neg h]

theorem rune_byte (k : Nat) (t : ByteArray) (h0 : 0 < t.size) : cambiumref02_Rune.f (k + 12) t =
    (if nb t 0 < 128 then some ((nb t 0 : Int), 1)
     else if nb t 0 < 194 ∨ 245 ≤ nb t 0 then some (65533, 1)
     else if nb t 0 < 224 then cambiumref02_Rune.j3 (k + 11) t ((2 : Nat) : Int) ((nb t 0 % 32 : Nat) : Int) 128
     else if nb t 0 < 240 then cambiumref02_Rune.j3 (k + 10) t ((3 : Nat) : Int) ((nb t 0 % 16 : Nat) : Int) 2048
     else cambiumref02_Rune.j3 (k + 9) t ((4 : Nat) : Int) ((nb t 0 % 8 : Nat) : Int) 65536) := by
  have hb := nb_lt t 0
  have hbt := bt_nb t 0 h0
  rw [show ((0 : Nat) : Int) = 0 from rfl] at hbt
  unfold cambiumref02_Rune.f
  rw [if_pos (by omega), hbt, wrap_id (by omega) (by omega)]
  generalize hc : nb t 0 = c at *
  have m32 : Int.tmod (c : Int) 32 = ((c % 32 : Nat) : Int) := by rw [Int.tmod_eq_emod_of_nonneg (by omega)]; omega
  have m16 : Int.tmod (c : Int) 16 = ((c % 16 : Nat) : Int) := by rw [Int.tmod_eq_emod_of_nonneg (by omega)]; omega
  have m8 : Int.tmod (c : Int) 8 = ((c % 8 : Nat) : Int) := by rw [Int.tmod_eq_emod_of_nonneg (by omega)]; omega
  by_cases h1 : c < 128
  · rw [if_neg (by omega), if_pos h1, cambiumref02_Rune.j0, if_neg (by simp), if_neg (by omega), cambiumref02_Rune.j1, if_neg (by simp), if_neg (by omega), cambiumref02_Rune.j2, if_neg (by simp), if_neg (by omega)]
    have e := j3_eq (k + 8) t 1 (c : Int) 0
    rw [show ((1 : Nat) : Int) = 1 from rfl] at e
    rw [e, if_neg (by omega)]
    have e2 := l0_end (k + 7) t 1 (c : Int) 0
    rw [show ((1 : Nat) : Int) = 1 from rfl] at e2
    rw [e2, if_pos (by unfold okRune; simp; omega)]
  rw [if_neg h1]
  by_cases h2 : c < 194
  · rw [if_neg (show ¬ (c : Int) ≥ 194 by omega), if_pos (show c < 194 ∨ 245 ≤ c from .inl h2), cambiumref02_Rune.j0, if_neg (by simp), if_neg (by omega), cambiumref02_Rune.j1, if_neg (by simp), if_neg (by omega), cambiumref02_Rune.j2, if_neg (by simp), if_pos (by omega)]
  rw [if_pos (show (c : Int) ≥ 194 by omega)]
  by_cases h3 : c < 224
  · rw [if_neg (show ¬ (c < 194 ∨ 245 ≤ c) by omega), if_pos h3, cambiumref02_Rune.j0, if_pos (by simpa using (by omega : (c : Int) < 224)), m32]; rfl
  rw [cambiumref02_Rune.j0, if_neg (show ¬ decide ((c : Int) < 224) = true by simp; omega), if_pos (show (c : Int) ≥ 224 by omega)]
  by_cases h4 : c < 240
  · rw [if_neg (show ¬ (c < 194 ∨ 245 ≤ c) by omega), if_neg h3, if_pos h4, cambiumref02_Rune.j1, if_pos (by simpa using (by omega : (c : Int) < 240)), m16]; rfl
  rw [cambiumref02_Rune.j1, if_neg (show ¬ decide ((c : Int) < 240) = true by simp; omega), if_pos (show (c : Int) ≥ 240 by omega)]
  by_cases h5 : c < 245
  · rw [if_neg (show ¬ (c < 194 ∨ 245 ≤ c) by omega), if_neg h3, if_neg h4, cambiumref02_Rune.j2, if_pos (by simpa using (by omega : (c : Int) < 245)), m8]; rfl
  · rw [if_pos (show c < 194 ∨ 245 ≤ c by omega), cambiumref02_Rune.j2, if_neg (show ¬ decide ((c : Int) < 245) = true by simp; omega), if_pos (by omega)]

theorem rune_eq (k : Nat) (t : ByteArray) (h0 : 0 < t.size) (hk : 12 ≤ k) : cambiumref02_Rune.f k t = some (((Utf8.decode t 0).1 : Int), ((Utf8.decode t 0).2 : Int)) := by
  obtain ⟨k, rfl⟩ : ∃ m, k = m + 12 := ⟨k - 12, by omega⟩
  rw [rune_byte k t h0, Lib.decode_at]
  change _ = some (((Lib.decodeN (t.size - 0) (nb t 0) (nb t (0 + 1)) (nb t (0 + 2)) (nb t (0 + 3))).1 : Int), ((Lib.decodeN (t.size - 0) (nb t 0) (nb t (0 + 1)) (nb t (0 + 2)) (nb t (0 + 3))).2 : Int))
  rw [show t.size - 0 = t.size from rfl, show 0 + 1 = 1 from rfl, show 0 + 2 = 2 from rfl, show 0 + 3 = 3 from rfl]
  have b0 := nb_lt t 0
  have b1 := nb_lt t 1
  have b2 := nb_lt t 2
  have b3 := nb_lt t 3
  have s1 := fun (kk n : Nat) (v least : Int) (hi : 1 < n) (hsz : n ≤ t.size) (hn : n ≤ 4) (h0 : 0 ≤ v) (h1 : v ≤ 16777216) => l0_step kk t n v least 1 hi hsz hn h0 h1
  have s2 := fun (kk n : Nat) (v least : Int) (hi : 2 < n) (hsz : n ≤ t.size) (hn : n ≤ 4) (h0 : 0 ≤ v) (h1 : v ≤ 16777216) => l0_step kk t n v least 2 hi hsz hn h0 h1
  have s3 := fun (kk n : Nat) (v least : Int) (hi : 3 < n) (hsz : n ≤ t.size) (hn : n ≤ 4) (h0 : 0 ≤ v) (h1 : v ≤ 16777216) => l0_step kk t n v least 3 hi hsz hn h0 h1
  have e2 := fun (kk : Nat) (v least : Int) => l0_end kk t 2 v least
  have e3 := fun (kk : Nat) (v least : Int) => l0_end kk t 3 v least
  have e4 := fun (kk : Nat) (v least : Int) => l0_end kk t 4 v least
  simp only [Int.natCast_one] at s1
  generalize nb t 0 = c0 at *
  generalize nb t 1 = c1 at *
  generalize nb t 2 = c2 at *
  generalize nb t 3 = c3 at *
  unfold Lib.decodeN
  by_cases h1 : c0 < 128
  · rw [if_pos h1, if_pos h1]; rfl
  rw [if_neg h1, if_neg h1]
  by_cases h2 : c0 < 194 ∨ 245 ≤ c0
  · rw [if_pos h2]
    by_cases g1 : c0 / 32 = 6 ∧ (1 < t.size ∧ c1 / 64 = 2)
    · rw [if_pos g1, if_neg (by omega)]; rfl
    rw [if_neg g1, if_neg (by omega)]
    by_cases g3 : c0 / 8 = 30 ∧ (1 < t.size ∧ c1 / 64 = 2) ∧ (2 < t.size ∧ c2 / 64 = 2) ∧ (3 < t.size ∧ c3 / 64 = 2)
    · rw [if_pos g3, if_neg (by omega)]; rfl
    · rw [if_neg g3]; rfl
  rw [if_neg h2]
  by_cases h3 : c0 < 224
  · rw [if_pos h3, j3_eq]
    by_cases g2 : t.size < 2
    · rw [if_pos g2, if_neg (by omega), if_neg (by omega), if_neg (by omega)]; rfl
    rw [if_neg g2, s1 _ 2 _ _ (by omega) (by omega) (by omega) (by omega) (by omega)]
    by_cases g1 : c1 / 64 = 2
    · rw [if_pos g1, show ((1 + 1 : Nat) : Int) = ((2 : Nat) : Int) from rfl, e2, if_pos (by unfold okRune; simp; omega), if_pos (show c0 / 32 = 6 ∧ (1 < t.size ∧ c1 / 64 = 2) from ⟨by omega, by omega, g1⟩), if_pos (by omega)]
      simp
    · rw [if_neg g1, if_neg (by omega), if_neg (by omega), if_neg (by omega)]; rfl
  rw [if_neg h3]
  by_cases h4 : c0 < 240
  · rw [if_pos h4, j3_eq]
    by_cases g0 : t.size < 3
    · rw [if_pos g0, if_neg (by omega), if_neg (by omega), if_neg (by omega)]; rfl
    rw [if_neg g0, s1 _ 3 _ _ (by omega) (by omega) (by omega) (by omega) (by omega)]
    by_cases g1 : c1 / 64 = 2
    · rw [if_pos g1]
      have := s2 (k + 7) 3 (((c0 % 16 : Nat) : Int) * 64 + ((c1 % 64 : Nat) : Int)) 2048 (by omega) (by omega) (by omega) (by omega) (by omega)
      rw [show ((1 + 1 : Nat) : Int) = ((2 : Nat) : Int) from rfl, this]
      by_cases g2 : c2 / 64 = 2
      · rw [if_pos g2, show ((2 + 1 : Nat) : Int) = ((3 : Nat) : Int) from rfl, e3]
        by_cases g3 : c0 % 16 * 4096 + c1 % 64 * 64 + c2 % 64 ≥ 2048 ∧ (c0 % 16 * 4096 + c1 % 64 * 64 + c2 % 64 < 55296 ∨ (57344 ≤ c0 % 16 * 4096 + c1 % 64 * 64 + c2 % 64 ∧ c0 % 16 * 4096 + c1 % 64 * 64 + c2 % 64 ≤ 1114111))
        · rw [if_pos (by unfold okRune; simp; omega), if_neg (by omega), if_pos (show c0 / 16 = 14 ∧ (1 < t.size ∧ c1 / 64 = 2) ∧ (2 < t.size ∧ c2 / 64 = 2) from ⟨by omega, ⟨by omega, g1⟩, by omega, g2⟩), if_pos g3]
          simp; omega
        · rw [if_neg (by unfold okRune; simp; omega), if_neg (by omega), if_pos (show c0 / 16 = 14 ∧ (1 < t.size ∧ c1 / 64 = 2) ∧ (2 < t.size ∧ c2 / 64 = 2) from ⟨by omega, ⟨by omega, g1⟩, by omega, g2⟩), if_neg g3]; rfl
      · rw [if_neg g2, if_neg (by omega), if_neg (by omega), if_neg (by omega)]; rfl
    · rw [if_neg g1, if_neg (by omega), if_neg (by omega), if_neg (by omega)]; rfl
  rw [if_neg h4, j3_eq]
  by_cases g0 : t.size < 4
  · rw [if_pos g0, if_neg (by omega), if_neg (by omega), if_neg (by omega)]; rfl
  rw [if_neg g0, s1 _ 4 _ _ (by omega) (by omega) (by omega) (by omega) (by omega)]
  by_cases g1 : c1 / 64 = 2
  · rw [if_pos g1]
    have := s2 (k + 6) 4 (((c0 % 8 : Nat) : Int) * 64 + ((c1 % 64 : Nat) : Int)) 65536 (by omega) (by omega) (by omega) (by omega) (by omega)
    rw [show ((1 + 1 : Nat) : Int) = ((2 : Nat) : Int) from rfl, this]
    by_cases g2 : c2 / 64 = 2
    · rw [if_pos g2]
      have := s3 (k + 5) 4 ((((c0 % 8 : Nat) : Int) * 64 + ((c1 % 64 : Nat) : Int)) * 64 + ((c2 % 64 : Nat) : Int)) 65536 (by omega) (by omega) (by omega) (by omega) (by omega)
      rw [show ((2 + 1 : Nat) : Int) = ((3 : Nat) : Int) from rfl, this]
      by_cases g3 : c3 / 64 = 2
      · rw [if_pos g3, show ((3 + 1 : Nat) : Int) = ((4 : Nat) : Int) from rfl, e4]
        by_cases g4 : c0 % 8 * 262144 + c1 % 64 * 4096 + c2 % 64 * 64 + c3 % 64 ≥ 65536 ∧ (c0 % 8 * 262144 + c1 % 64 * 4096 + c2 % 64 * 64 + c3 % 64 < 55296 ∨ (57344 ≤ c0 % 8 * 262144 + c1 % 64 * 4096 + c2 % 64 * 64 + c3 % 64 ∧ c0 % 8 * 262144 + c1 % 64 * 4096 + c2 % 64 * 64 + c3 % 64 ≤ 1114111))
        · rw [if_pos (by unfold okRune; simp; omega), if_neg (by omega), if_neg (by omega), if_pos (show c0 / 8 = 30 ∧ (1 < t.size ∧ c1 / 64 = 2) ∧ (2 < t.size ∧ c2 / 64 = 2) ∧ (3 < t.size ∧ c3 / 64 = 2) from ⟨by omega, ⟨by omega, g1⟩, ⟨by omega, g2⟩, by omega, g3⟩), if_pos g4]
          simp; omega
        · rw [if_neg (by unfold okRune; simp; omega), if_neg (by omega), if_neg (by omega), if_pos (show c0 / 8 = 30 ∧ (1 < t.size ∧ c1 / 64 = 2) ∧ (2 < t.size ∧ c2 / 64 = 2) ∧ (3 < t.size ∧ c3 / 64 = 2) from ⟨by omega, ⟨by omega, g1⟩, ⟨by omega, g2⟩, by omega, g3⟩), if_neg g4]; rfl
      · rw [if_neg g3, if_neg (by omega), if_neg (by omega), if_neg (by omega)]; rfl
    · rw [if_neg g2, if_neg (by omega), if_neg (by omega), if_neg (by omega)]; rfl
  · rw [if_neg g1, if_neg (by omega), if_neg (by omega), if_neg (by omega)]; rfl

end Go.Proofs.Ytffggkhahambhaa.Runes

namespace Go.Proofs.Ytffggkhahambhaa.Runes
open Go.RowKit Go.Proofs.Ytffggkhahambhaa.PAll Go.Proofs.YtffggkhahambhaaW.PrintWords Go.Proofs.YtffggkhahambhaaW.PrintLast Go.Proofs.YtffggkhahambhaaW.PrintMore Go.Proofs.Ytffggkhahambhaa.Math
set_option linter.unusedVariables false

theorem rune_at (k : Nat) (s : ByteArray) (i : Nat) (h : i < s.size) (hk : 12 ≤ k) : cambiumref02_Rune.f k (s.extract i s.size) = some ((rn s i : Int), (wd s i : Int)) := by
  rw [rune_eq k _ (by rw [extract_size]; omega) hk, dec_extract]; rfl

theorem runes_l0 (s : ByteArray) (hs : s.size ≤ 1000000) (d : Nat) : ∀ (k i : Nat) (a b : List Int), s.size - i ≤ d → i ≤ s.size → a.length ≤ i → b.length ≤ i → d + 13 < k →
    cambiumref02_Runes.l0 k s a b (i : Int) = some (a ++ (from_ s i).map (fun j => (rn s j : Int)), b ++ (from_ s i).map (fun (j : Nat) => (j : Int))) := by
  induction d with
  | zero =>
    intro k i a b h1 h2 ha hb hk
    obtain ⟨k, rfl⟩ : ∃ m, k = m + 1 := ⟨k - 1, by omega⟩
    rw [cambiumref02_Runes.l0, if_neg (by omega), from_ge (by omega)]; simp
  | succ d ih =>
    intro k i a b h1 h2 ha hb hk
    obtain ⟨k, rfl⟩ : ∃ m, k = m + 1 := ⟨k - 1, by omega⟩
    by_cases hi : i < s.size
    · have hw := dec_bounds s i hi
      rw [cambiumref02_Runes.l0, if_pos (by omega), if_pos (by omega), if_pos (by omega), Int.toNat_natCast, rune_at k s i hi (by omega), Option.bind_some, if_pos (by omega), if_pos (by omega), wrap_id (by omega) (by omega)]
      have := ih k (i + wd s i) (a ++ [(rn s i : Int)]) (b ++ [(i : Int)]) (by omega) (by omega) (by simp; omega) (by simp; omega) (by omega)
      rw [show ((i : Int) + (wd s i : Int)) = ((i + wd s i : Nat) : Int) by omega, this, from_lt hi]
      simp
    · rw [cambiumref02_Runes.l0, if_neg (by omega), from_ge hi]; simp
theorem runes_eq (k : Nat) (s : ByteArray) (hs : s.size ≤ 1000000) (hk : s.size + 13 < k) : cambiumref02_Runes.f k s = some (runesI s, posI s) := by
  unfold cambiumref02_Runes.f
  have := runes_l0 s hs s.size k 0 [] [] (by omega) (by omega) (by simp) (by simp) hk
  simpa [runesI, posI] using this

/-- Is a text UTF-8, from a place on? -/
def utfFrom (s : ByteArray) (i : Nat) : Bool := (from_ s i).all fun j => !(rn s j == 65533 && wd s j == 1)
theorem utf_l0 (s : ByteArray) (hs : s.size ≤ 1000000) (d : Nat) : ∀ (k i : Nat), s.size - i ≤ d → i ≤ s.size → d + 13 < k → cambiumref02_Utf.l0 k s (i : Int) = some (utfFrom s i) := by
  induction d with
  | zero =>
    intro k i h1 h2 hk
    obtain ⟨k, rfl⟩ : ∃ m, k = m + 1 := ⟨k - 1, by omega⟩
    rw [cambiumref02_Utf.l0, if_neg (by omega)]
    unfold utfFrom
    rw [from_ge (by omega)]; rfl
  | succ d ih =>
    intro k i h1 h2 hk
    obtain ⟨k, rfl⟩ : ∃ m, k = m + 1 := ⟨k - 1, by omega⟩
    by_cases hi : i < s.size
    · have hw := dec_bounds s i hi
      have hr := ih k (i + wd s i) (by omega) (by omega) (by omega)
      rw [show ((i + wd s i : Nat) : Int) = (i : Int) + (wd s i : Int) by omega] at hr
      rw [cambiumref02_Utf.l0, if_pos (by omega), if_pos (by omega), if_pos (by omega), Int.toNat_natCast, rune_at k s i hi (by omega), Option.bind_some, wrap_id (by omega) (by omega), hr]
      have hu : utfFrom s i = (!(rn s i == 65533 && wd s i == 1) && utfFrom s (i + wd s i)) := by
        unfold utfFrom; rw [from_lt hi]; rfl
      rw [hu]
      by_cases h3 : rn s i = 65533
      · by_cases h4 : wd s i = 1
        · rw [if_pos (by omega), if_pos (by omega), h3, h4]; rfl
        · rw [if_pos (by omega), if_neg (by omega)]; simp [h4]
      · rw [if_neg (by omega)]; simp [h3]
    · rw [cambiumref02_Utf.l0, if_neg (by omega)]
      unfold utfFrom
      rw [from_ge hi]; rfl
theorem utf_eq (k : Nat) (s : ByteArray) (hs : s.size ≤ 1000000) (hk : s.size + 13 < k) : cambiumref02_Utf.f k s = some (utfFrom s 0) := by
  unfold cambiumref02_Utf.f
  exact utf_l0 s hs s.size k 0 (by omega) (by omega) hk

def rightB (s : ByteArray) : Bool := (runesI s).all okI && utfFrom s 0
theorem right_l0 (s : ByteArray) (l : List Int) (hs : s.size ≤ 1000000) (hl : l.length ≤ 1000000) (d : Nat) : ∀ (k i : Nat), l.length - i ≤ d → i ≤ l.length → d + s.size + 15 < k →
    cambiumref02_Right.l0 k s l (i : Int) = some ((l.drop i).all okI && utfFrom s 0) := by
  induction d with
  | zero =>
    intro k i h1 h2 hk
    obtain ⟨k, rfl⟩ : ∃ m, k = m + 1 := ⟨k - 1, by omega⟩
    rw [cambiumref02_Right.l0, if_neg (by omega), utf_eq k s hs (by omega), List.drop_of_length_le (by omega)]; rfl
  | succ d ih =>
    intro k i h1 h2 hk
    obtain ⟨k, rfl⟩ : ∃ m, k = m + 1 := ⟨k - 1, by omega⟩
    by_cases hi : i < l.length
    · have hr := ih k (i + 1) (by omega) (by omega) (by omega)
      rw [show ((i + 1 : Nat) : Int) = (i : Int) + 1 by omega] at hr
      rw [cambiumref02_Right.l0, if_pos (by omega), if_pos (by omega), wrap_id (by omega) (by omega), hr, rd_drop hi, List.all_cons]
      generalize rd l (i : Int) = r
      unfold okI
      by_cases h3 : r < 32
      · rw [if_pos h3]; simp [h3]
      · rw [if_neg h3]
        by_cases h4 : r ≥ 127
        · by_cases h5 : r ≤ 159
          · rw [if_pos h4, if_pos h5]; simp [h4, h5]
          · rw [if_pos h4, if_neg h5]; simp [h3, h5]
        · rw [if_neg h4]; simp [h3, h4]
    · rw [cambiumref02_Right.l0, if_neg (by omega), utf_eq k s hs (by omega), List.drop_of_length_le (by omega)]; rfl
theorem runesI_len (s : ByteArray) : (runesI s).length ≤ s.size := by
  unfold runesI
  rw [List.length_map]
  have := from_len s s.size 0 (by omega)
  omega
theorem right_eq (k : Nat) (s : ByteArray) (hs : s.size ≤ 1000000) (hk : 2 * s.size + 16 < k) : cambiumref02_Right.f k s = some (rightB s) := by
  unfold cambiumref02_Right.f
  have hl := runesI_len s
  rw [runes_eq k s hs (by omega), Option.bind_some]
  have := right_l0 s (runesI s) hs (by omega) (runesI s).length k 0 (by omega) (by omega) (by omega)
  simpa [rightB] using this

end Go.Proofs.Ytffggkhahambhaa.Runes

namespace Go.Proofs.Ytffggkhahambhaa.NumFacts
open Go.RowKit Go.Proofs.Ytffggkhahambhaa.PAll Go.Proofs.YtffggkhahambhaaW.PrintWords Go.Proofs.YtffggkhahambhaaW.PrintLast Go.Proofs.YtffggkhahambhaaW.PrintMore Go.Proofs.Ytffggkhahambhaa.Math
set_option linter.unusedVariables false

theorem less_l0 (a b : List Int) (ha : a.length ≤ 140737488355328) (d : Nat) : ∀ (k i : Nat), i ≤ a.length → i ≤ b.length → a.length - i = d → 2 * d + 1 < k →
    cambiumref01_Less.l0 k a b (i : Int) = some (lexLt (a.drop i) (b.drop i)) := by
  induction d with
  | zero =>
    intro k i h1 h2 hd hk
    obtain ⟨k, rfl⟩ : ∃ m, k = m + 1 + 1 := ⟨k - 2, by omega⟩
    have hi : i = a.length := by omega
    subst hi
    rw [cambiumref01_Less.l0, if_neg (by omega), cambiumref01_Less.j1, if_neg (by simp), List.drop_length]
    by_cases hb : a.length < b.length
    · rw [rd_drop hb]
      simp only [lexLt]
      rw [decide_eq_true (by omega)]
    · rw [List.drop_of_length_le (by omega)]
      simp only [lexLt]
      rw [decide_eq_false (by omega)]
  | succ d ih =>
    intro k i h1 h2 hd hk
    obtain ⟨k, rfl⟩ : ∃ m, k = m + 1 + 1 := ⟨k - 2, by omega⟩
    rw [cambiumref01_Less.l0, if_pos (by omega), cambiumref01_Less.j1]
    rw [rd_drop (l := a) (i := i) (by omega)]
    by_cases hb : i < b.length
    · rw [rd_drop hb, if_pos (by simpa using (by omega : (i : Int) < (b.length : Int))), if_pos (by omega), if_pos (by omega), if_pos (by omega)]
      simp only [lexLt]
      by_cases e : rd a (i : Int) = rd b (i : Int)
      · rw [if_pos e, if_pos e, wrap_id (by omega) (by omega)]
        exact ih k (i + 1) (by omega) (by omega) (by omega) (by omega)
      · rw [if_neg e, if_neg e]
    · rw [List.drop_of_length_le (l := b) (by omega), if_neg (by simpa using (by omega : (b.length : Int) ≤ (i : Int)))]
      simp only [lexLt]
      rw [decide_eq_false (by omega)]
theorem less_eq (k : Nat) (a b : List Int) (ha : a.length ≤ 140737488355328) (hk : 2 * a.length + 1 < k) : cambiumref01_Less.f k a b = some (lexLt a b) := by
  unfold cambiumref01_Less.f
  have := less_l0 a b ha a.length k 0 (by omega) (by omega) (by omega) hk
  simpa using this

end Go.Proofs.Ytffggkhahambhaa.NumFacts

namespace Go.Proofs.Ytffggkhahambhaa.Pure
open Go.RowKit Go.Proofs.YtffggkhahambhaaW.PrintWords Go.Proofs.YtffggkhahambhaaW.PrintLast Go.Proofs.YtffggkhahambhaaW.PrintMore Go.Proofs.Ytffggkhahambhaa.Math
open Go.Proofs.Ytffggkhahambhaa.PAll Go.Proofs.Ytffggkhahambhaa.Runes Go.Proofs.Ytffggkhahambhaa.NumFacts
set_option linter.unusedVariables false
set_option linter.unusedSimpArgs false
def timeB (n : Int) : Bool := if n ≥ 0 then decide (n ≤ 1152921504606846976) else false
def rightT (s : ByteArray) : Bool := Lib.validD s.data.toList && (runesI s).all okI
def nameB (s : ByteArray) : Bool := if s.toList = ([] : List UInt8) then false else if (s.size : Int) ≤ 32 then rightT s else false
def evBad (x : S77) : Bool := !(timeB x.f0) || !(nameB x.f1)
def liBad (x : S80) : Bool := x.f0 == 0 || x.f1 == 0
theorem drop_z {α : Type} {l : List α} {z : α} {i : Nat} (h : i < l.length) : l.drop i = l.getD i z :: l.drop (i + 1) := by
  rw [List.drop_eq_getElem_cons h, List.getD_eq_getElem?_getD, List.getElem?_eq_getElem h]
  rfl
/-- A value's bare form is the value. -/
def bareB (k : Int) (s : ByteArray) (n : Int) (b : Bool) : Bool :=
  if k = 0 then (n == 0) && !b else if k = 1 then (s.toList == ([] : List UInt8)) && !b else if k = 2 then (s.toList == ([] : List UInt8)) && (n == 0) else false
def mvB (k : Int) (s : ByteArray) (n : Int) (b : Bool) : Bool := bareB k s n b && (decide ((s.size : Int) ≤ 200) && rightT s)
theorem drop_ext (s : ByteArray) (i : Nat) : (⟨(s.data.toList.drop i).toArray⟩ : ByteArray) = s.extract i s.size := by
  ext1
  rw [ByteArray.data_extract]
  apply Array.ext'
  rw [Array.toList_extract]
  simp [List.extract_eq_take_drop, List.take_of_length_le]
theorem decL_drop (s : ByteArray) (i : Nat) : Lib.decodeL (s.data.toList.drop i) = (rn s i, wd s i) := by
  unfold Lib.decodeL
  rw [drop_ext, dec_extract]
  rfl
theorem valid_utf (s : ByteArray) : ∀ (d i : Nat), s.size - i ≤ d → Lib.validD (s.data.toList.drop i) = utfFrom s i := by
  intro d
  induction d with
  | zero =>
    intro i h
    have h0 : s.data.toList.drop i = [] := List.drop_eq_nil_of_le (by have := data_size s; rw [Array.length_toList]; omega)
    rw [h0, Lib.validD_nil]
    unfold utfFrom
    rw [from_ge (by omega)]
    rfl
  | succ d ih =>
    intro i h
    by_cases hlt : i < s.size
    · have hne : s.data.toList.drop i ≠ [] := by
        intro h0
        have := congrArg List.length h0
        rw [List.length_drop, Array.length_toList, data_size] at this
        simp at this
        omega
      have hb := dec_bounds s i hlt
      rw [Lib.validD_step _ hne, decL_drop, List.drop_drop, ih (i + wd s i) (by omega)]
      unfold utfFrom
      rw [from_lt hlt, List.all_cons]
      by_cases hc : rn s i = 65533 ∧ wd s i = 1
      · rw [if_pos hc]; simp [hc.1, hc.2]
      · rw [if_neg hc]
        have hc' : (rn s i == 65533 && wd s i == 1) = false := by
          rw [Bool.and_eq_false_iff, beq_eq_false_iff_ne, beq_eq_false_iff_ne]
          omega
        rw [hc']; rfl
    · have h0 : s.data.toList.drop i = [] := List.drop_eq_nil_of_le (by have := data_size s; rw [Array.length_toList]; omega)
      rw [h0, Lib.validD_nil]
      unfold utfFrom
      rw [from_ge hlt]
      rfl
theorem right_same (s : ByteArray) : (Lib.validD s.data.toList && (runesI s).all okI) = rightB s := by
  have h := valid_utf s s.size 0 (by omega)
  rw [List.drop_zero] at h
  rw [h]
  unfold rightB
  exact Bool.and_comm _ _
theorem wsuc (i : Nat) (h : i ≤ 200000000000000) : wrap64 ((i : Int) + 1) = ((i + 1 : Nat) : Int) := by unfold wrap64; omega
theorem small_l1 (a b c : Int) (s o : ByteArray) (d e f : Int) (A : List S45) (E : List S77) (L : List S80) (hE : E.length ≤ 140737488351232) (n : Nat) :
    ∀ (k i : Nat) (x : Int), E.length - i ≤ n → n < k → ∃ r, cambiumref16_Small.l1 k x (i : Int) a b c s o d e f A E L = some r := by
  induction n with
  | zero =>
    intro k i x h hk
    obtain ⟨k, rfl⟩ : ∃ j, k = j + 1 := ⟨k - 1, by omega⟩
    exact ⟨_, by rw [cambiumref16_Small.l1, if_neg (by omega)]⟩
  | succ n ih =>
    intro k i x h hk
    obtain ⟨k, rfl⟩ : ∃ j, k = j + 1 := ⟨k - 1, by omega⟩
    by_cases hlt : i < E.length
    · rw [cambiumref16_Small.l1, if_pos (by omega)]
      by_cases hx : x ≤ 6000
      · rw [if_pos hx, if_pos (by omega), wsuc i (by omega)]
        exact ih k (i + 1) _ (by omega) (by omega)
      · exact ⟨_, by rw [if_neg hx]⟩
    · exact ⟨_, by rw [cambiumref16_Small.l1, if_neg (by omega)]⟩
theorem small_l0 (a b c : Int) (s o : ByteArray) (d e f : Int) (A : List S45) (E : List S77) (L : List S80) (hA : A.length ≤ 140737488351232) (hE : E.length ≤ 140737488351232) (n : Nat) :
    ∀ (k i : Nat) (x : Int), A.length - i ≤ n → n + E.length + 2 < k → ∃ r, cambiumref16_Small.l0 k x (i : Int) a b c s o d e f A E L = some r := by
  have hend : ∀ (k : Nat) (x : Int), E.length + 1 < k → ∃ r, cambiumref16_Small.j1 k x a b c s o d e f A E L = some r := by
    intro k x hk
    obtain ⟨k, rfl⟩ : ∃ j, k = j + 1 := ⟨k - 1, by omega⟩
    rw [cambiumref16_Small.j1]
    exact small_l1 a b c s o d e f A E L hE E.length k 0 x (by omega) (by omega)
  induction n with
  | zero =>
    intro k i x h hk
    obtain ⟨k, rfl⟩ : ∃ j, k = j + 1 := ⟨k - 1, by omega⟩
    rw [cambiumref16_Small.l0, if_neg (by omega)]
    exact hend k x (by omega)
  | succ n ih =>
    intro k i x h hk
    obtain ⟨k, rfl⟩ : ∃ j, k = j + 1 := ⟨k - 1, by omega⟩
    by_cases hlt : i < A.length
    · rw [cambiumref16_Small.l0, if_pos (by omega)]
      by_cases hx : x ≤ 6000
      · rw [if_pos hx, if_pos (by omega), wsuc i (by omega)]
        exact ih k (i + 1) _ (by omega) (by omega)
      · rw [if_neg hx]
        exact hend k x (by omega)
    · rw [cambiumref16_Small.l0, if_neg (by omega)]
      exact hend k x (by omega)
theorem small_some (k : Nat) (a b c : Int) (s o : ByteArray) (d e f : Int) (A : List S45) (E : List S77) (L : List S80) (hA : A.length ≤ 140737488351232) (hE : E.length ≤ 140737488351232) (hk : A.length + E.length + 3 < k) :
    ∃ r, cambiumref16_Small.f k a b c s o d e f A E L = some r := by
  unfold cambiumref16_Small.f
  exact small_l0 a b c s o d e f A E L hA hE A.length k 0 _ (by omega) (by omega)
def nums (l : List UInt8) : List Int := l.map fun b => (b.toNat : Int)
theorem less_txt (k : Nat) (s t : ByteArray) (hs : s.size ≤ 1000) (hk : 2100 < k) : cambiumref01_Less.f k (bytesOf s) (bytesOf t) = some (lexLt (nums s.data.toList) (nums t.data.toList)) := by
  rw [less_eq k _ _ (by rw [bytesOf_length]; omega) (by rw [bytesOf_length]; omega)]
  rfl
theorem right_ref (k : Nat) (s : ByteArray) (h : (s.size : Int) ≤ 200) (hk : 500 < k) : cambiumref02_Right.f k s = some (rightT s) := by
  rw [Runes.right_eq k s (by omega) (by omega)]
  unfold rightT
  rw [right_same]
theorem refval (k : Nat) (k0 : Int) (s : ByteArray) (n : Int) (b : Bool) (hk : 500 < k) : cambiumref16_Value.f k k0 s n b = some (mvB k0 s n b) := by
  have hr : (if (s.size : Int) ≤ 200 then ((cambiumref02_Right.f k s).bind fun t => some t) else some false) = some (decide ((s.size : Int) ≤ 200) && rightT s) := by
    by_cases h : (s.size : Int) ≤ 200
    · rw [if_pos h, right_ref k s h hk, Option.bind_some, decide_eq_true h, Bool.true_and]
    · rw [if_neg h, decide_eq_false h, Bool.false_and]
  unfold cambiumref16_Value.f mvB bareB
  by_cases h1 : k0 < 0
  · rw [if_pos h1, if_neg (by omega), if_neg (by omega), if_neg (by omega), Bool.false_and]
  rw [if_neg h1]
  by_cases h2 : k0 > 2
  · rw [if_pos h2, if_neg (by omega), if_neg (by omega), if_neg (by omega), Bool.false_and]
  rw [if_neg h2]
  by_cases z0 : k0 = 0
  · rw [if_pos z0, if_neg (show ¬ k0 = 1 by omega), if_neg (show ¬ k0 = 2 by omega), if_pos z0, hr]
    by_cases hn : n = 0
    · rw [if_pos hn, beq_iff_eq.mpr hn]
      cases b
      · rw [if_neg Bool.false_ne_true]; rfl
      · rw [if_pos rfl]; rfl
    · rw [if_neg hn, beq_eq_false_iff_ne.mpr hn]; rfl
  · rw [if_neg z0, if_neg z0]
    by_cases hs : s.toList = ([] : List UInt8)
    · rw [if_pos hs, beq_iff_eq.mpr hs, hr]
      by_cases z1 : k0 = 1
      · rw [if_pos z1, if_neg (show ¬ k0 = 2 by omega), if_pos z1]
        cases b
        · rw [if_neg Bool.false_ne_true]; rfl
        · rw [if_pos rfl]; rfl
      · have z2 : k0 = 2 := by omega
        rw [if_neg z1, if_pos z2, if_neg z1, if_pos z2]
        by_cases hn : n = 0
        · rw [if_pos hn, beq_iff_eq.mpr hn]; rfl
        · rw [if_neg hn, beq_eq_false_iff_ne.mpr hn]; rfl
    · rw [if_neg hs, beq_eq_false_iff_ne.mpr hs]
      by_cases z1 : k0 = 1
      · rw [if_pos z1]; rfl
      · rw [if_neg z1, if_pos (by omega)]; rfl
def at_ (A : List S45) (i : Nat) : S45 := A.getD i z45
def mvA (x : S45) : Bool := mvB x.f1.f0 x.f1.f1 x.f1.f2 x.f1.f3
def ordA (A : List S45) (i : Nat) : Bool := if i = 0 then true else lexLt (nums (at_ A (i - 1)).f0.data.toList) (nums (at_ A i).f0.data.toList)
/-- So many attributes, from one on, may be. -/
def attrsOk (A : List S45) : Nat → Nat → Bool
  | 0, _ => true
  | n + 1, i => if nameB (at_ A i).f0 = true then (if mvA (at_ A i) = true then (if ordA A i = true then attrsOk A n (i + 1) else false) else false) else false
theorem wpre (i : Nat) (h : i + 1 ≤ 200000000000000) : wrap64 (((i + 1 : Nat) : Int) - 1) = (i : Int) := by unfold wrap64; omega
theorem name_size (s : ByteArray) (h : nameB s = true) : s.size ≤ 32 := by
  unfold nameB at h
  split at h
  · cases h
  · split at h
    · omega
    · cases h
def HeadP (a b c : Int) (s o : ByteArray) (d e f : Int) : Prop := a ≠ 0 ∧ b ≠ 0 ∧ c ≠ b ∧ nameB s = true ∧ nameB o = true ∧ timeB d = true ∧ timeB e = true ∧ 0 ≤ f ∧ f ≤ 2
def BodyP (A : List S45) (E : List S77) (L : List S80) : Prop :=
  attrsOk A A.length 0 = true ∧ (A.length : Int) ≤ 16 ∧ (E.length : Int) ≤ 16 ∧ (L.length : Int) ≤ 16 ∧ E.any evBad = false ∧ L.any liBad = false
theorem no_of {P : Prop} (h : ¬ P) : ∃ r, (some false : Option Bool) = some r ∧ (r = true ↔ P) := ⟨false, rfl, ⟨fun h => (by cases h), fun p => absurd p h⟩⟩
theorem refname (k : Nat) (s : ByteArray) (hk : 500 < k) : cambiumref16_Name.f k s = some (nameB s) := by
  unfold cambiumref16_Name.f nameB
  by_cases h : s.toList = ([] : List UInt8)
  · have hs : s.size = 0 := by rw [ByteArray.toList_eq] at h; have := congrArg List.length h; rw [Array.length_toList] at this; exact this
    rw [if_pos h, if_neg (by omega)]
  · have hs : (s.size : Int) ≥ 1 := by
      apply Classical.byContradiction
      intro hn
      apply h
      rw [ByteArray.toList_eq]
      apply List.eq_nil_of_length_eq_zero
      rw [Array.length_toList]
      show s.size = 0
      omega
    rw [if_neg h, if_pos hs]
    by_cases h2 : (s.size : Int) ≤ 32
    · rw [if_pos h2, if_pos h2, right_ref k s (by omega) hk, Option.bind_some]
    · rw [if_neg h2, if_neg h2]
theorem reftime (n : Int) : cambiumref16_time.f n = some (timeB n) := by
  unfold cambiumref16_time.f timeB
  split <;> rfl
theorem may_l2 (a b c : Int) (s o : ByteArray) (d e f : Int) (A : List S45) (E : List S77) (L : List S80) (hL : L.length ≤ 140737488351232) (n : Nat) : ∀ (k i : Nat), L.length - i ≤ n → n < k → cambiumref16_May.l2 k (i : Int) a b c s o d e f A E L = some (!((L.drop i).any liBad)) := by
  have hend : ∀ (k i : Nat), ¬ i < L.length → cambiumref16_May.l2 (k + 1) (i : Int) a b c s o d e f A E L = some (!((L.drop i).any liBad)) := by
    intro k i h
    rw [cambiumref16_May.l2, if_neg (by omega), List.drop_eq_nil_of_le (by omega)]
    rfl
  induction n with
  | zero =>
    intro k i h hk
    obtain ⟨k, rfl⟩ : ∃ j, k = j + 1 := ⟨k - 1, by omega⟩
    exact hend k i (by omega)
  | succ n ih =>
    intro k i h hk
    obtain ⟨k, rfl⟩ : ∃ j, k = j + 1 := ⟨k - 1, by omega⟩
    by_cases hlt : i < L.length
    · have hx : rd_T80 L (i : Int) = L.getD i z80 := rfl
      rw [cambiumref16_May.l2, if_pos (by omega), if_pos (by omega), hx, drop_z (z := z80) hlt, List.any_cons, wsuc i (by omega)]
      unfold liBad at ih ⊢
      by_cases h0 : (L.getD i z80).f0 = 0
      · rw [if_pos h0, beq_iff_eq.mpr h0]; rfl
      · rw [if_neg h0, beq_eq_false_iff_ne.mpr h0]
        by_cases h1 : (L.getD i z80).f1 = 0
        · rw [if_pos h1, beq_iff_eq.mpr h1]; rfl
        · rw [if_neg h1, beq_eq_false_iff_ne.mpr h1, ih k (i + 1) (by omega) (by omega)]; rfl
    · exact hend k i hlt
theorem may_l1 (a b c : Int) (s o : ByteArray) (d e f : Int) (A : List S45) (E : List S77) (L : List S80) (hE : E.length ≤ 140737488351232) (hL : L.length ≤ 140737488351232) (n : Nat) : ∀ (k i : Nat), E.length - i ≤ n → n + L.length + 502 < k → cambiumref16_May.l1 k (i : Int) a b c s o d e f A E L = some (!((E.drop i).any evBad) && !(L.any liBad)) := by
  have hend : ∀ (k i : Nat), ¬ i < E.length → L.length < k → cambiumref16_May.l1 (k + 1) (i : Int) a b c s o d e f A E L = some (!((E.drop i).any evBad) && !(L.any liBad)) := by
    intro k i h hk
    have h2 := may_l2 a b c s o d e f A E L hL L.length k 0 (by omega) hk
    rw [cambiumref16_May.l1, if_neg (by omega), List.drop_eq_nil_of_le (by omega), (show cambiumref16_May.l2 k 0 a b c s o d e f A E L = _ from h2)]
    rfl
  induction n with
  | zero =>
    intro k i h hk
    obtain ⟨k, rfl⟩ : ∃ j, k = j + 1 := ⟨k - 1, by omega⟩
    exact hend k i (by omega) (by omega)
  | succ n ih =>
    intro k i h hk
    obtain ⟨k, rfl⟩ : ∃ j, k = j + 1 := ⟨k - 1, by omega⟩
    by_cases hlt : i < E.length
    · have hx : rd_T77 E (i : Int) = E.getD i z77 := rfl
      rw [cambiumref16_May.l1, if_pos (by omega), if_pos (by omega), hx, reftime, Option.bind_some, drop_z (z := z77) hlt, List.any_cons, wsuc i (by omega)]
      have hb : evBad (E.getD i z77) = (!(timeB (E.getD i z77).f0) || !(nameB (E.getD i z77).f1)) := rfl
      rw [hb]
      cases ht : timeB (E.getD i z77).f0 with
      | false => rw [if_neg Bool.false_ne_true]; rfl
      | true =>
        rw [if_pos rfl, refname k _ (by omega), Option.bind_some]
        cases hn : nameB (E.getD i z77).f1 with
        | false => rw [if_neg Bool.false_ne_true]; rfl
        | true => rw [if_pos rfl, ih k (i + 1) (by omega) (by omega)]; rfl
    · exact hend k i hlt (by omega)
theorem may_l0 (a b c : Int) (s o : ByteArray) (d e f : Int) (A : List S45) (E : List S77) (L : List S80) (hA : A.length ≤ 16) (hE : E.length ≤ 140737488351232) (hL : L.length ≤ 140737488351232) (n : Nat) : ∀ (k i : Nat), A.length - i = n → i ≤ A.length → n + E.length + L.length + 2203 < k → (∀ j, i = j + 1 → (at_ A j).f0.size ≤ 1000) →
    cambiumref16_May.l0 k (i : Int) a b c s o d e f A E L = some (attrsOk A n i && (!(E.any evBad) && !(L.any liBad))) := by
  induction n with
  | zero =>
    intro k i h hi hk hp
    obtain ⟨k, rfl⟩ : ∃ j, k = j + 1 := ⟨k - 1, by omega⟩
    have h2 := may_l1 a b c s o d e f A E L hE hL E.length k 0 (by omega) (by omega)
    rw [cambiumref16_May.l0, if_neg (by omega), attrsOk, Bool.true_and, (show cambiumref16_May.l1 k 0 a b c s o d e f A E L = _ from h2)]
    rfl
  | succ n ih =>
    intro k i h hi hk hp
    obtain ⟨k, rfl⟩ : ∃ j, k = j + 1 := ⟨k - 1, by omega⟩
    have hx : rd_T45 A (i : Int) = at_ A i := rfl
    rw [cambiumref16_May.l0, if_pos (by omega), if_pos (by omega), hx, refname k _ (by omega), Option.bind_some, attrsOk]
    cases hn : nameB (at_ A i).f0 with
    | false => rw [if_neg Bool.false_ne_true, if_neg Bool.false_ne_true, Bool.false_and]
    | true =>
      have hm := refval k (at_ A i).f1.f0 (at_ A i).f1.f1 (at_ A i).f1.f2 (at_ A i).f1.f3 (by omega)
      have hsz := name_size _ hn
      rw [if_pos rfl, if_pos rfl, hm, Option.bind_some]
      have hmv : mvB (at_ A i).f1.f0 (at_ A i).f1.f1 (at_ A i).f1.f2 (at_ A i).f1.f3 = mvA (at_ A i) := rfl
      rw [hmv]
      cases hv : mvA (at_ A i) with
      | false => rw [if_neg Bool.false_ne_true, if_neg Bool.false_ne_true, Bool.false_and]
      | true =>
        rw [if_pos rfl, if_pos rfl, wsuc i (by omega)]
        cases i with
        | zero =>
          have ho : ordA A 0 = true := rfl
          rw [if_neg (by omega), if_pos ho]
          exact ih k 1 (by omega) (by omega) (by omega) (fun j hj => by have : j = 0 := by omega
                                                                        subst this; omega)
        | succ j =>
          have hy : rd_T45 A (j : Int) = at_ A j := rfl
          have ho : ordA A (j + 1) = lexLt (nums (at_ A j).f0.data.toList) (nums (at_ A (j + 1)).f0.data.toList) := rfl
          have hps : (at_ A j).f0.size ≤ 1000 := hp j rfl
          rw [if_pos (by omega), wpre j (by omega), if_pos (by omega), if_pos (by omega), hy, if_pos (by omega), if_pos (by omega), less_txt k _ _ hps (by omega), Option.bind_some, ho]
          cases hl : lexLt (nums (at_ A j).f0.data.toList) (nums (at_ A (j + 1)).f0.data.toList) with
          | false => rw [if_neg Bool.false_ne_true, if_neg Bool.false_ne_true, Bool.false_and]
          | true =>
            rw [if_pos rfl, if_pos rfl]
            exact ih k (j + 1 + 1) (by omega) (by omega) (by omega) (fun m hm => by have : m = j + 1 := by omega
                                                                                    subst this; omega)
theorem ref_may (k : Nat) (a b c : Int) (s o : ByteArray) (d e f : Int) (A : List S45) (E : List S77) (L : List S80) (hE : E.length ≤ 140737488351232) (hL : L.length ≤ 140737488351232) (hk : E.length + L.length + 2300 < k) :
    ∃ r, cambiumref16_May.f k a b c s o d e f A E L = some r ∧ (r = true ↔ HeadP a b c s o d e f ∧ BodyP A E L) := by
  obtain ⟨k, rfl⟩ : ∃ j, k = j + 1 + 1 := ⟨k - 2, by omega⟩
  have hf : cambiumref16_May.j0 (k + 1 + 1) true a b c s o d e f A E L = some false := by rw [cambiumref16_May.j0, if_pos rfl]
  have hf1 : cambiumref16_May.j1 (k + 1) true a b c s o d e f A E L = some false := by rw [cambiumref16_May.j1, if_pos rfl]
  unfold cambiumref16_May.f
  by_cases h0 : a = 0
  · rw [if_pos h0, hf]; exact no_of (fun h => h.1.1 h0)
  rw [if_neg h0]
  by_cases h1 : b = 0
  · rw [if_pos h1, hf]; exact no_of (fun h => h.1.2.1 h1)
  rw [if_neg h1]
  by_cases h2 : c = b
  · rw [if_pos h2, hf]; exact no_of (fun h => h.1.2.2.1 h2)
  rw [if_neg h2, refname _ s (by omega), Option.bind_some]
  cases h3 : nameB s with
  | false => rw [if_neg Bool.false_ne_true, hf]; exact no_of (fun h => by have := h.1.2.2.2.1; rw [h3] at this; cases this)
  | true =>
  rw [if_pos rfl, refname _ o (by omega), Option.bind_some]
  cases h4 : nameB o with
  | false => rw [if_neg Bool.false_ne_true, hf]; exact no_of (fun h => by have := h.1.2.2.2.2.1; rw [h4] at this; cases this)
  | true =>
  rw [if_pos rfl, reftime, Option.bind_some]
  cases h5 : timeB d with
  | false => rw [if_neg Bool.false_ne_true, hf]; exact no_of (fun h => by have := h.1.2.2.2.2.2.1; rw [h5] at this; cases this)
  | true =>
  rw [if_pos rfl, reftime, Option.bind_some]
  cases h6 : timeB e with
  | false => rw [if_neg Bool.false_ne_true, hf]; exact no_of (fun h => by have := h.1.2.2.2.2.2.2.1; rw [h6] at this; cases this)
  | true =>
  rw [if_pos rfl]
  by_cases h7 : f < 0
  · rw [if_pos h7, hf]; exact no_of (fun h => by have := h.1.2.2.2.2.2.2.2.1; omega)
  rw [if_neg h7]
  by_cases h8 : f > 2
  · rw [decide_eq_true h8, hf]; exact no_of (fun h => by have := h.1.2.2.2.2.2.2.2.2; omega)
  have hh : HeadP a b c s o d e f := ⟨h0, h1, h2, h3, h4, h5, h6, by omega, by omega⟩
  rw [decide_eq_false h8, cambiumref16_May.j0, if_neg Bool.false_ne_true]
  by_cases h9 : (A.length : Int) > 16
  · rw [if_pos h9, hf1]; exact no_of (fun h => by have := h.2.2.1; omega)
  rw [if_neg h9]
  by_cases h10 : (E.length : Int) > 16
  · rw [if_pos h10, hf1]; exact no_of (fun h => by have := h.2.2.2.1; omega)
  rw [if_neg h10]
  by_cases h11 : (L.length : Int) > 16
  · rw [decide_eq_true h11, hf1]; exact no_of (fun h => by have := h.2.2.2.2.1; omega)
  have h12 := may_l0 a b c s o d e f A E L (by omega) hE hL A.length k 0 (by omega) (by omega) (by omega) (fun j hj => by omega)
  rw [decide_eq_false h11, cambiumref16_May.j1, if_neg Bool.false_ne_true, (show cambiumref16_May.l0 k 0 a b c s o d e f A E L = _ from h12)]
  refine ⟨_, rfl, ?_⟩
  rw [Bool.and_eq_true, Bool.and_eq_true, Bool.not_eq_true', Bool.not_eq_true']
  exact ⟨fun h => ⟨hh, h.1, by omega, by omega, by omega, h.2.1, h.2.2⟩, fun h => ⟨h.2.1, h.2.2.2.2.2.1, h.2.2.2.2.2.2⟩⟩
end Go.Proofs.Ytffggkhahambhaa.Pure

/- The reference's Same, printed: whether two rows are one. -/
import Derived.Test.YtenmjbcedadcbaaRd
import Derived.Test.YtenmjbcedadcbaaPAllx1
import Derived.Test.YtenmjbcedadcbaaPAllx3
import Derived.Lib.DecodeN
import Derived.Test.YtenmjbcedadcbaaPAllx4
import Derived.Lib.ValidLaws
import Derived.Test.YtenmjbcedadcbaaPAllx5
import Derived.Test.YtenmjbcedadcbaaExtUn
import Derived.Test.YtenmjbcedadcbaaPAllx8
import Derived.Test.YtenmjbcedadcbaaPAllx2
import Derived.Test.YtenmjbcedadcbaaPAllx7
import Derived.Test.YtenmjbcedadcbaaPAllx6
import Derived.Test.YtenmjbcedadcbaaExtIndex2
import Derived.Test.YtenmjbcedadcbaaExtAwake18
import Derived.Test.YtenmjbcedadcbaaPAllx9
import Derived.Test.YtenmjbcedadcbaaPAllx13
import Derived.Test.YtenmjbcedadcbaaPAllx11
import Derived.Test.YtenmjbcedadcbaaPAllx12
import Derived.Test.YtenmjbcedadcbaaReads
namespace Go.Proofs.Ytenmjbcedadcbaa.Same
open Go.RowKit Go.Proofs.Ytenmjbcedadcbaa.PAll Go.Proofs.YtenmjbcedadcbaaW.PrintWords Go.Proofs.YtenmjbcedadcbaaW.PrintLast Go.Proofs.YtenmjbcedadcbaaW.PrintMore Go.Proofs.Ytenmjbcedadcbaa.Math

theorem same_l0 (a b : List Int) (hab : a.length = b.length) (hn : a.length ≤ 140737488355328) (d : Nat) : ∀ (k i : Nat), i ≤ a.length → a.length - i = d → d < k →
    cambiumref01_Same.l0 k a b (i : Int) = some (decide (a.drop i = b.drop i)) := by
  induction d with
  | zero =>
    intro k i h1 hd hk
    obtain ⟨k, rfl⟩ : ∃ m, k = m + 1 := ⟨k - 1, by omega⟩
    simp only [cambiumref01_Same.l0]
    rw [if_neg (by omega)]
    have : i = a.length := by omega
    subst this
    rw [List.drop_length, hab, List.drop_length]; simp
  | succ d ih =>
    intro k i h1 hd hk
    obtain ⟨k, rfl⟩ : ∃ m, k = m + 1 := ⟨k - 1, by omega⟩
    simp only [cambiumref01_Same.l0]
    rw [if_pos (by omega), if_pos (by omega), if_pos (by omega)]
    rw [rd_drop (l := a) (i := i) (by omega), rd_drop (l := b) (i := i) (by omega)]
    by_cases e : rd a (i : Int) = rd b (i : Int)
    · rw [if_pos e, wrap_id (by omega) (by omega)]
      have := ih k (i + 1) (by omega) (by omega) (by omega)
      rw [show (i : Int) + 1 = ((i + 1 : Nat) : Int) from rfl, this, e]
      simp
    · rw [if_neg e]
      simp [e]

/-- Same: whether two rows are one. -/
theorem same_eq (k : Nat) (a b : List Int) (hn : a.length ≤ 140737488355328) (hk : a.length < k) : cambiumref01_Same.f k a b = some (decide (a = b)) := by
  unfold cambiumref01_Same.f
  by_cases h : a.length = b.length
  · rw [if_pos (by omega)]
    have := same_l0 a b h hn a.length k 0 (by omega) (by omega) hk
    simpa using this
  · rw [if_neg (by omega)]
    have : ¬ a = b := fun e => h (by rw [e])
    simp [this]

end Go.Proofs.Ytenmjbcedadcbaa.Same

namespace Go.Proofs.Ytenmjbcedadcbaa.Math
open Go.RowKit Go.Proofs.YtenmjbcedadcbaaW.PrintWords
set_option linter.unusedVariables false

/-- Does one row come ahead of another one? -/
def lexLt : List Int → List Int → Bool
  | [], [] => false
  | [], _ :: _ => true
  | _ :: _, [] => false
  | a :: s, b :: t => if a = b then lexLt s t else decide (a < b)
theorem lexLt_append_eq_len : ∀ (a b c d : List Int), a.length = b.length → lexLt (a ++ c) (b ++ d) = if a = b then lexLt c d else lexLt a b
  | [], [], c, d, _ => by simp
  | [], _ :: _, _, _, h => by simp at h
  | _ :: _, [], _, _, h => by simp at h
  | x :: a, y :: b, c, d, h => by
    simp only [List.cons_append, lexLt]
    by_cases e : x = y
    · subst e
      rw [if_pos rfl, if_pos rfl, lexLt_append_eq_len a b c d (by simpa using h)]
      by_cases e2 : a = b
      · subst e2; simp
      · simp [e2]
    · rw [if_neg e, if_neg e, if_neg (by simp [e])]

end Go.Proofs.Ytenmjbcedadcbaa.Math

namespace Go.Proofs.Ytenmjbcedadcbaa.NumFacts
open Go.RowKit Go.Proofs.Ytenmjbcedadcbaa.PAll Go.Proofs.YtenmjbcedadcbaaW.PrintWords Go.Proofs.YtenmjbcedadcbaaW.PrintLast Go.Proofs.YtenmjbcedadcbaaW.PrintMore Go.Proofs.Ytenmjbcedadcbaa.Math
set_option linter.unusedVariables false

theorem less_l0 (a b : List Int) (ha : a.length ≤ 140737488355328) (d : Nat) : ∀ (k i : Nat), i ≤ a.length → i ≤ b.length → a.length - i = d → 2 * d + 1 < k →
    cambiumref01_Less.l0 k a b (i : Int) = some (lexLt (a.drop i) (b.drop i)) := by
  induction d with
  | zero =>
    intro k i h1 h2 hd hk
    obtain ⟨k, rfl⟩ : ∃ m, k = m + 1 + 1 := ⟨k - 2, by omega⟩
    have hi : i = a.length := by omega
    subst hi
    rw [cambiumref01_Less.l0, if_neg (by omega), cambiumref01_Less.j1, if_neg (by simp), List.drop_length]
    by_cases hb : a.length < b.length
    · rw [rd_drop hb]
      simp only [lexLt]
      rw [decide_eq_true (by omega)]
    · rw [List.drop_of_length_le (by omega)]
      simp only [lexLt]
      rw [decide_eq_false (by omega)]
  | succ d ih =>
    intro k i h1 h2 hd hk
    obtain ⟨k, rfl⟩ : ∃ m, k = m + 1 + 1 := ⟨k - 2, by omega⟩
    rw [cambiumref01_Less.l0, if_pos (by omega), cambiumref01_Less.j1]
    rw [rd_drop (l := a) (i := i) (by omega)]
    by_cases hb : i < b.length
    · rw [rd_drop hb, if_pos (by simpa using (by omega : (i : Int) < (b.length : Int))), if_pos (by omega), if_pos (by omega), if_pos (by omega)]
      simp only [lexLt]
      by_cases e : rd a (i : Int) = rd b (i : Int)
      · rw [if_pos e, if_pos e, wrap_id (by omega) (by omega)]
        exact ih k (i + 1) (by omega) (by omega) (by omega) (by omega)
      · rw [if_neg e, if_neg e]
    · rw [List.drop_of_length_le (l := b) (by omega), if_neg (by simpa using (by omega : (b.length : Int) ≤ (i : Int)))]
      simp only [lexLt]
      rw [decide_eq_false (by omega)]
theorem less_eq (k : Nat) (a b : List Int) (ha : a.length ≤ 140737488355328) (hk : 2 * a.length + 1 < k) : cambiumref01_Less.f k a b = some (lexLt a b) := by
  unfold cambiumref01_Less.f
  have := less_l0 a b ha a.length k 0 (by omega) (by omega) (by omega) hk
  simpa using this

end Go.Proofs.Ytenmjbcedadcbaa.NumFacts

namespace Go.Proofs.Ytenmjbcedadcbaa.Runes
open Go.RowKit Go.Proofs.YtenmjbcedadcbaaW.PrintWords Go.Proofs.Ytenmjbcedadcbaa.Math
set_option linter.unusedVariables false

/-- A byte, as a natural number. -/
def nb (s : ByteArray) (i : Nat) : Nat := (s.get! i).toNat
theorem nb_lt (s : ByteArray) (i : Nat) : nb s i < 256 := by unfold nb; exact (s.get! i).toNat_lt
def rn (s : ByteArray) (i : Nat) : Nat := (Utf8.decode s i).1
def wd (s : ByteArray) (i : Nat) : Nat := (Utf8.decode s i).2

theorem data_size (s : ByteArray) : s.data.size = s.size := rfl
theorem extract_size (s : ByteArray) (i : Nat) : (s.extract i s.size).size = s.size - i := by
  rw [ByteArray.size_extract]; omega
theorem nb_extract (s : ByteArray) (i j : Nat) : nb (s.extract i s.size) j = nb s (i + j) := by
  have hg : ∀ (t : ByteArray) (k : Nat), t.get! k = t.data[k]! := fun t k => rfl
  unfold nb
  rw [hg, hg]
  congr 1
  rw [ByteArray.data_extract, getElem!_def, getElem!_def, Array.getElem?_extract, data_size]
  by_cases h : j < min s.size s.size - i
  · rw [if_pos h]
  · rw [if_neg h, Array.getElem?_eq_none (by rw [data_size]; omega)]
theorem dec_extract (s : ByteArray) (i : Nat) : Utf8.decode (s.extract i s.size) 0 = Utf8.decode s i := by
  rw [Lib.decode_at, Lib.decode_at, extract_size]
  have e : ∀ j, ((s.extract i s.size).get! j).toNat = (s.get! (i + j)).toNat := fun j => nb_extract s i j
  rw [e, e, e, e]
  rfl
theorem dec_bounds (s : ByteArray) (i : Nat) (h : i < s.size) : 1 ≤ wd s i ∧ i + wd s i ≤ s.size ∧ wd s i ≤ 4 ∧ rn s i ≤ 1114111 := by
  unfold wd rn
  rw [Lib.decode_at]
  unfold Lib.decodeN
  have b0 := (s.get! i).toNat_lt
  have b1 := (s.get! (i + 1)).toNat_lt
  have b2 := (s.get! (i + 2)).toNat_lt
  have b3 := (s.get! (i + 3)).toNat_lt
  generalize (s.get! i).toNat = c0 at *
  generalize (s.get! (i + 1)).toNat = c1 at *
  generalize (s.get! (i + 2)).toNat = c2 at *
  generalize (s.get! (i + 3)).toNat = c3 at *
  split
  · simp only; omega
  split
  · split <;> (simp only; omega)
  split
  · split <;> (simp only; omega)
  split
  · split <;> (simp only; omega)
  · simp only; omega

/-- Where each rune begins, from a place on. -/
def starts (s : ByteArray) : Nat → Nat → List Nat
  | 0, _ => []
  | f + 1, i => if i < s.size then i :: starts s f (i + wd s i) else []
def pos (s : ByteArray) : List Nat := starts s s.size 0
theorem starts_fuel (s : ByteArray) : ∀ (f f' i : Nat), s.size - i ≤ f → s.size - i ≤ f' → starts s f i = starts s f' i
  | 0, 0, _, _, _ => rfl
  | 0, f' + 1, i, h, _ => by rw [starts, starts, if_neg (by omega)]
  | f + 1, 0, i, _, h => by rw [starts, starts, if_neg (by omega)]
  | f + 1, f' + 1, i, h, h' => by
    rw [starts, starts]
    by_cases hi : i < s.size
    · have := dec_bounds s i hi
      rw [if_pos hi, if_pos hi, starts_fuel s f f' (i + wd s i) (by omega) (by omega)]
    · rw [if_neg hi, if_neg hi]
/-- From a place on, by as much fuel as is needed. -/
def from_ (s : ByteArray) (i : Nat) : List Nat := starts s s.size i
theorem from_lt {s : ByteArray} {i : Nat} (h : i < s.size) : from_ s i = i :: from_ s (i + wd s i) := by
  unfold from_
  have hb := dec_bounds s i h
  obtain ⟨m, hm⟩ : ∃ m, s.size = m + 1 := ⟨s.size - 1, by omega⟩
  have e : starts s s.size (i + wd s i) = starts s m (i + wd s i) := starts_fuel s _ _ _ (by omega) (by omega)
  rw [e]
  conv => lhs; rw [hm]
  rw [starts, if_pos h]
theorem from_ge {s : ByteArray} {i : Nat} (h : ¬ i < s.size) : from_ s i = [] := by
  unfold from_
  cases hs : s.size with
  | zero => rfl
  | succ m => rw [starts, if_neg h]
def runesI (s : ByteArray) : List Int := (from_ s 0).map fun i => (rn s i : Int)
def posI (s : ByteArray) : List Int := (from_ s 0).map fun (i : Nat) => (i : Int)
theorem from_len (s : ByteArray) : ∀ (d i : Nat), s.size - i ≤ d → (from_ s i).length ≤ s.size - i := by
  intro d
  induction d with
  | zero => intro i h; rw [from_ge (by omega)]; simp
  | succ d ih =>
    intro i h
    by_cases hi : i < s.size
    · have := dec_bounds s i hi
      rw [from_lt hi]
      have := ih (i + wd s i) (by omega)
      simp only [List.length_cons]; omega
    · rw [from_ge hi]; simp

/-- May a rune stand in a right text? -/
def okI (r : Int) : Bool := !(decide (r < 32) || (decide (r ≥ 127) && decide (r ≤ 159)))

end Go.Proofs.Ytenmjbcedadcbaa.Runes

namespace Go.Proofs.Ytenmjbcedadcbaa.Runes
open Go.RowKit Go.Proofs.Ytenmjbcedadcbaa.PAll Go.Proofs.YtenmjbcedadcbaaW.PrintWords Go.Proofs.YtenmjbcedadcbaaW.PrintLast Go.Proofs.YtenmjbcedadcbaaW.PrintMore Go.Proofs.Ytenmjbcedadcbaa.Math
set_option linter.unusedVariables false

theorem bt_nb (s : ByteArray) (i : Nat) (h : i < s.size) : bt s (i : Int) = (nb s i : Int) := by
  unfold bt nb
  rw [dif_pos (by simpa using h)]
  simp only [Int.toNat_natCast]
  rw [ByteArray.get!, getElem!_pos s.data i h]
  rfl

theorem tdiv64 {x : Int} (h : 0 ≤ x) (h1 : x < 256) : Int.tdiv x 64 % 256 = x / 64 := by rw [Int.tdiv_eq_ediv_of_nonneg h]; omega
theorem l0_step (k : Nat) (t : ByteArray) (n : Nat) (v least : Int) (i : Nat) (hi : i < n) (hsz : n ≤ t.size) (hn : n ≤ 4) (h0 : 0 ≤ v) (h1 : v ≤ 16777216) :
    cambiumref02_Rune.l0 (k + 1) t (n : Int) v least (i : Int) = if nb t i / 64 = 2 then cambiumref02_Rune.l0 k t (n : Int) (v * 64 + ((nb t i % 64 : Nat) : Int)) least ((i + 1 : Nat) : Int) else some (65533, 1) := by
  have hb := nb_lt t i
  rw [cambiumref02_Rune.l0, if_pos (by omega), if_pos (by omega), if_pos (by omega), bt_nb t i (by omega), tdiv64 (by omega) (by omega), wrap_id (x := (nb t i : Int)) (by omega) (by omega), Int.tmod_eq_emod_of_nonneg (by omega), wrap_id (x := v * 64) (by omega) (by omega), wrap_id (x := (i : Int) + 1) (by omega) (by omega), wrap_id (by omega) (by omega)]
  by_cases h : nb t i / 64 = 2
  · rw [if_pos (by omega), if_pos h]; congr 1
  · rw [if_neg (by omega), if_neg h]
def okRune (v least : Int) : Bool := decide (least ≤ v ∧ v ≤ 1114111 ∧ ¬ (55296 ≤ v ∧ v < 57344))
theorem l0_end (k : Nat) (t : ByteArray) (n : Nat) (v least : Int) : cambiumref02_Rune.l0 (k + 1) t (n : Int) v least (n : Int) = if okRune v least = true then some (v, (n : Int)) else some (65533, 1) := by
  rw [cambiumref02_Rune.l0, if_neg (by omega)]
  unfold okRune
  by_cases h1 : v < least
  · rw [if_pos h1, if_neg (by simp; omega)]
  · by_cases h2 : v > 1114111
    · rw [if_neg h1, if_pos h2, if_neg (by simp; omega)]
    · by_cases h3 : v ≥ 55296
      · by_cases h4 : v < 57344
        · rw [if_neg h1, if_neg h2, if_pos h3, if_pos h4, if_neg (by simp; omega)]
        · rw [if_neg h1, if_neg h2, if_pos h3, if_neg h4, if_pos (by simp; omega)]
      · rw [if_neg h1, if_neg h2, if_neg h3, if_pos (by simp; omega)]
theorem j3_eq (k : Nat) (t : ByteArray) (n : Nat) (v least : Int) : cambiumref02_Rune.j3 (k + 1) t (n : Int) v least = if t.size < n then some (65533, 1) else cambiumref02_Rune.l0 k t (n : Int) v least 1 := by
  rw [cambiumref02_Rune.j3]
  by_cases h : t.size < n
  · rw [if_pos (by omega), if_pos h]
  · rw [if_neg (by omega), if_neg h]

theorem rune_byte (k : Nat) (t : ByteArray) (h0 : 0 < t.size) : cambiumref02_Rune.f (k + 12) t =
    (if nb t 0 < 128 then some ((nb t 0 : Int), 1)
     else if nb t 0 < 194 ∨ 245 ≤ nb t 0 then some (65533, 1)
     else if nb t 0 < 224 then cambiumref02_Rune.j3 (k + 11) t ((2 : Nat) : Int) ((nb t 0 % 32 : Nat) : Int) 128
     else if nb t 0 < 240 then cambiumref02_Rune.j3 (k + 10) t ((3 : Nat) : Int) ((nb t 0 % 16 : Nat) : Int) 2048
     else cambiumref02_Rune.j3 (k + 9) t ((4 : Nat) : Int) ((nb t 0 % 8 : Nat) : Int) 65536) := by
  have hb := nb_lt t 0
  have hbt := bt_nb t 0 h0
  rw [show ((0 : Nat) : Int) = 0 from rfl] at hbt
  unfold cambiumref02_Rune.f
  rw [if_pos (by omega), hbt, wrap_id (by omega) (by omega)]
  generalize hc : nb t 0 = c at *
  have m32 : Int.tmod (c : Int) 32 = ((c % 32 : Nat) : Int) := by rw [Int.tmod_eq_emod_of_nonneg (by omega)]; omega
  have m16 : Int.tmod (c : Int) 16 = ((c % 16 : Nat) : Int) := by rw [Int.tmod_eq_emod_of_nonneg (by omega)]; omega
  have m8 : Int.tmod (c : Int) 8 = ((c % 8 : Nat) : Int) := by rw [Int.tmod_eq_emod_of_nonneg (by omega)]; omega
  by_cases h1 : c < 128
  · rw [if_neg (by omega), if_pos h1, cambiumref02_Rune.j0, if_neg (by simp), if_neg (by omega), cambiumref02_Rune.j1, if_neg (by simp), if_neg (by omega), cambiumref02_Rune.j2, if_neg (by simp), if_neg (by omega)]
    have e := j3_eq (k + 8) t 1 (c : Int) 0
    rw [show ((1 : Nat) : Int) = 1 from rfl] at e
    rw [e, if_neg (by omega)]
    have e2 := l0_end (k + 7) t 1 (c : Int) 0
    rw [show ((1 : Nat) : Int) = 1 from rfl] at e2
    rw [e2, if_pos (by unfold okRune; simp; omega)]
  rw [if_neg h1]
  by_cases h2 : c < 194
  · rw [if_neg (show ¬ (c : Int) ≥ 194 by omega), if_pos (show c < 194 ∨ 245 ≤ c from .inl h2), cambiumref02_Rune.j0, if_neg (by simp), if_neg (by omega), cambiumref02_Rune.j1, if_neg (by simp), if_neg (by omega), cambiumref02_Rune.j2, if_neg (by simp), if_pos (by omega)]
  rw [if_pos (show (c : Int) ≥ 194 by omega)]
  by_cases h3 : c < 224
  · rw [if_neg (show ¬ (c < 194 ∨ 245 ≤ c) by omega), if_pos h3, cambiumref02_Rune.j0, if_pos (by simpa using (by omega : (c : Int) < 224)), m32]; rfl
  rw [cambiumref02_Rune.j0, if_neg (show ¬ decide ((c : Int) < 224) = true by simp; omega), if_pos (show (c : Int) ≥ 224 by omega)]
  by_cases h4 : c < 240
  · rw [if_neg (show ¬ (c < 194 ∨ 245 ≤ c) by omega), if_neg h3, if_pos h4, cambiumref02_Rune.j1, if_pos (by simpa using (by omega : (c : Int) < 240)), m16]; rfl
  rw [cambiumref02_Rune.j1, if_neg (show ¬ decide ((c : Int) < 240) = true by simp; omega), if_pos (show (c : Int) ≥ 240 by omega)]
  by_cases h5 : c < 245
  · rw [if_neg (show ¬ (c < 194 ∨ 245 ≤ c) by omega), if_neg h3, if_neg h4, cambiumref02_Rune.j2, if_pos (by simpa using (by omega : (c : Int) < 245)), m8]; rfl
  · rw [if_pos (show c < 194 ∨ 245 ≤ c by omega), cambiumref02_Rune.j2, if_neg (show ¬ decide ((c : Int) < 245) = true by simp; omega), if_pos (by omega)]

theorem rune_eq (k : Nat) (t : ByteArray) (h0 : 0 < t.size) (hk : 12 ≤ k) : cambiumref02_Rune.f k t = some (((Utf8.decode t 0).1 : Int), ((Utf8.decode t 0).2 : Int)) := by
  obtain ⟨k, rfl⟩ : ∃ m, k = m + 12 := ⟨k - 12, by omega⟩
  rw [rune_byte k t h0, Lib.decode_at]
  change _ = some (((Lib.decodeN (t.size - 0) (nb t 0) (nb t (0 + 1)) (nb t (0 + 2)) (nb t (0 + 3))).1 : Int), ((Lib.decodeN (t.size - 0) (nb t 0) (nb t (0 + 1)) (nb t (0 + 2)) (nb t (0 + 3))).2 : Int))
  rw [show t.size - 0 = t.size from rfl, show 0 + 1 = 1 from rfl, show 0 + 2 = 2 from rfl, show 0 + 3 = 3 from rfl]
  have b0 := nb_lt t 0
  have b1 := nb_lt t 1
  have b2 := nb_lt t 2
  have b3 := nb_lt t 3
  have s1 := fun (kk n : Nat) (v least : Int) (hi : 1 < n) (hsz : n ≤ t.size) (hn : n ≤ 4) (h0 : 0 ≤ v) (h1 : v ≤ 16777216) => l0_step kk t n v least 1 hi hsz hn h0 h1
  have s2 := fun (kk n : Nat) (v least : Int) (hi : 2 < n) (hsz : n ≤ t.size) (hn : n ≤ 4) (h0 : 0 ≤ v) (h1 : v ≤ 16777216) => l0_step kk t n v least 2 hi hsz hn h0 h1
  have s3 := fun (kk n : Nat) (v least : Int) (hi : 3 < n) (hsz : n ≤ t.size) (hn : n ≤ 4) (h0 : 0 ≤ v) (h1 : v ≤ 16777216) => l0_step kk t n v least 3 hi hsz hn h0 h1
  have e2 := fun (kk : Nat) (v least : Int) => l0_end kk t 2 v least
  have e3 := fun (kk : Nat) (v least : Int) => l0_end kk t 3 v least
  have e4 := fun (kk : Nat) (v least : Int) => l0_end kk t 4 v least
  simp only [Int.natCast_one] at s1
  generalize nb t 0 = c0 at *
  generalize nb t 1 = c1 at *
  generalize nb t 2 = c2 at *
  generalize nb t 3 = c3 at *
  unfold Lib.decodeN
  by_cases h1 : c0 < 128
  · rw [if_pos h1, if_pos h1]; rfl
  rw [if_neg h1, if_neg h1]
  by_cases h2 : c0 < 194 ∨ 245 ≤ c0
  · rw [if_pos h2]
    by_cases g1 : c0 / 32 = 6 ∧ (1 < t.size ∧ c1 / 64 = 2)
    · rw [if_pos g1, if_neg (by omega)]; rfl
    rw [if_neg g1, if_neg (by omega)]
    by_cases g3 : c0 / 8 = 30 ∧ (1 < t.size ∧ c1 / 64 = 2) ∧ (2 < t.size ∧ c2 / 64 = 2) ∧ (3 < t.size ∧ c3 / 64 = 2)
    · rw [if_pos g3, if_neg (by omega)]; rfl
    · rw [if_neg g3]; rfl
  rw [if_neg h2]
  by_cases h3 : c0 < 224
  · rw [if_pos h3, j3_eq]
    by_cases g2 : t.size < 2
    · rw [if_pos g2, if_neg (by omega), if_neg (by omega), if_neg (by omega)]; rfl
    rw [if_neg g2, s1 _ 2 _ _ (by omega) (by omega) (by omega) (by omega) (by omega)]
    by_cases g1 : c1 / 64 = 2
    · rw [if_pos g1, show ((1 + 1 : Nat) : Int) = ((2 : Nat) : Int) from rfl, e2, if_pos (by unfold okRune; simp; omega), if_pos (show c0 / 32 = 6 ∧ (1 < t.size ∧ c1 / 64 = 2) from ⟨by omega, by omega, g1⟩), if_pos (by omega)]
      simp
    · rw [if_neg g1, if_neg (by omega), if_neg (by omega), if_neg (by omega)]; rfl
  rw [if_neg h3]
  by_cases h4 : c0 < 240
  · rw [if_pos h4, j3_eq]
    by_cases g0 : t.size < 3
    · rw [if_pos g0, if_neg (by omega), if_neg (by omega), if_neg (by omega)]; rfl
    rw [if_neg g0, s1 _ 3 _ _ (by omega) (by omega) (by omega) (by omega) (by omega)]
    by_cases g1 : c1 / 64 = 2
    · rw [if_pos g1]
      have := s2 (k + 7) 3 (((c0 % 16 : Nat) : Int) * 64 + ((c1 % 64 : Nat) : Int)) 2048 (by omega) (by omega) (by omega) (by omega) (by omega)
      rw [show ((1 + 1 : Nat) : Int) = ((2 : Nat) : Int) from rfl, this]
      by_cases g2 : c2 / 64 = 2
      · rw [if_pos g2, show ((2 + 1 : Nat) : Int) = ((3 : Nat) : Int) from rfl, e3]
        by_cases g3 : c0 % 16 * 4096 + c1 % 64 * 64 + c2 % 64 ≥ 2048 ∧ (c0 % 16 * 4096 + c1 % 64 * 64 + c2 % 64 < 55296 ∨ (57344 ≤ c0 % 16 * 4096 + c1 % 64 * 64 + c2 % 64 ∧ c0 % 16 * 4096 + c1 % 64 * 64 + c2 % 64 ≤ 1114111))
        · rw [if_pos (by unfold okRune; simp; omega), if_neg (by omega), if_pos (show c0 / 16 = 14 ∧ (1 < t.size ∧ c1 / 64 = 2) ∧ (2 < t.size ∧ c2 / 64 = 2) from ⟨by omega, ⟨by omega, g1⟩, by omega, g2⟩), if_pos g3]
          simp; omega
        · rw [if_neg (by unfold okRune; simp; omega), if_neg (by omega), if_pos (show c0 / 16 = 14 ∧ (1 < t.size ∧ c1 / 64 = 2) ∧ (2 < t.size ∧ c2 / 64 = 2) from ⟨by omega, ⟨by omega, g1⟩, by omega, g2⟩), if_neg g3]; rfl
      · rw [if_neg g2, if_neg (by omega), if_neg (by omega), if_neg (by omega)]; rfl
    · rw [if_neg g1, if_neg (by omega), if_neg (by omega), if_neg (by omega)]; rfl
  rw [if_neg h4, j3_eq]
  by_cases g0 : t.size < 4
  · rw [if_pos g0, if_neg (by omega), if_neg (by omega), if_neg (by omega)]; rfl
  rw [if_neg g0, s1 _ 4 _ _ (by omega) (by omega) (by omega) (by omega) (by omega)]
  by_cases g1 : c1 / 64 = 2
  · rw [if_pos g1]
    have := s2 (k + 6) 4 (((c0 % 8 : Nat) : Int) * 64 + ((c1 % 64 : Nat) : Int)) 65536 (by omega) (by omega) (by omega) (by omega) (by omega)
    rw [show ((1 + 1 : Nat) : Int) = ((2 : Nat) : Int) from rfl, this]
    by_cases g2 : c2 / 64 = 2
    · rw [if_pos g2]
      have := s3 (k + 5) 4 ((((c0 % 8 : Nat) : Int) * 64 + ((c1 % 64 : Nat) : Int)) * 64 + ((c2 % 64 : Nat) : Int)) 65536 (by omega) (by omega) (by omega) (by omega) (by omega)
      rw [show ((2 + 1 : Nat) : Int) = ((3 : Nat) : Int) from rfl, this]
      by_cases g3 : c3 / 64 = 2
      · rw [if_pos g3, show ((3 + 1 : Nat) : Int) = ((4 : Nat) : Int) from rfl, e4]
        by_cases g4 : c0 % 8 * 262144 + c1 % 64 * 4096 + c2 % 64 * 64 + c3 % 64 ≥ 65536 ∧ (c0 % 8 * 262144 + c1 % 64 * 4096 + c2 % 64 * 64 + c3 % 64 < 55296 ∨ (57344 ≤ c0 % 8 * 262144 + c1 % 64 * 4096 + c2 % 64 * 64 + c3 % 64 ∧ c0 % 8 * 262144 + c1 % 64 * 4096 + c2 % 64 * 64 + c3 % 64 ≤ 1114111))
        · rw [if_pos (by unfold okRune; simp; omega), if_neg (by omega), if_neg (by omega), if_pos (show c0 / 8 = 30 ∧ (1 < t.size ∧ c1 / 64 = 2) ∧ (2 < t.size ∧ c2 / 64 = 2) ∧ (3 < t.size ∧ c3 / 64 = 2) from ⟨by omega, ⟨by omega, g1⟩, ⟨by omega, g2⟩, by omega, g3⟩), if_pos g4]
          simp; omega
        · rw [if_neg (by unfold okRune; simp; omega), if_neg (by omega), if_neg (by omega), if_pos (show c0 / 8 = 30 ∧ (1 < t.size ∧ c1 / 64 = 2) ∧ (2 < t.size ∧ c2 / 64 = 2) ∧ (3 < t.size ∧ c3 / 64 = 2) from ⟨by omega, ⟨by omega, g1⟩, ⟨by omega, g2⟩, by omega, g3⟩), if_neg g4]; rfl
      · rw [if_neg g3, if_neg (by omega), if_neg (by omega), if_neg (by omega)]; rfl
    · rw [if_neg g2, if_neg (by omega), if_neg (by omega), if_neg (by omega)]; rfl
  · rw [if_neg g1, if_neg (by omega), if_neg (by omega), if_neg (by omega)]; rfl

end Go.Proofs.Ytenmjbcedadcbaa.Runes

namespace Go.Proofs.Ytenmjbcedadcbaa.Runes
open Go.RowKit Go.Proofs.Ytenmjbcedadcbaa.PAll Go.Proofs.YtenmjbcedadcbaaW.PrintWords Go.Proofs.YtenmjbcedadcbaaW.PrintLast Go.Proofs.YtenmjbcedadcbaaW.PrintMore Go.Proofs.Ytenmjbcedadcbaa.Math
set_option linter.unusedVariables false

theorem rune_at (k : Nat) (s : ByteArray) (i : Nat) (h : i < s.size) (hk : 12 ≤ k) : cambiumref02_Rune.f k (s.extract i s.size) = some ((rn s i : Int), (wd s i : Int)) := by
  rw [rune_eq k _ (by rw [extract_size]; omega) hk, dec_extract]; rfl

theorem runes_l0 (s : ByteArray) (hs : s.size ≤ 1000000) (d : Nat) : ∀ (k i : Nat) (a b : List Int), s.size - i ≤ d → i ≤ s.size → a.length ≤ i → b.length ≤ i → d + 13 < k →
    cambiumref02_Runes.l0 k s a b (i : Int) = some (a ++ (from_ s i).map (fun j => (rn s j : Int)), b ++ (from_ s i).map (fun (j : Nat) => (j : Int))) := by
  induction d with
  | zero =>
    intro k i a b h1 h2 ha hb hk
    obtain ⟨k, rfl⟩ : ∃ m, k = m + 1 := ⟨k - 1, by omega⟩
    rw [cambiumref02_Runes.l0, if_neg (by omega), from_ge (by omega)]; simp
  | succ d ih =>
    intro k i a b h1 h2 ha hb hk
    obtain ⟨k, rfl⟩ : ∃ m, k = m + 1 := ⟨k - 1, by omega⟩
    by_cases hi : i < s.size
    · have hw := dec_bounds s i hi
      rw [cambiumref02_Runes.l0, if_pos (by omega), if_pos (by omega), if_pos (by omega), Int.toNat_natCast, rune_at k s i hi (by omega), Option.bind_some, if_pos (by omega), if_pos (by omega), wrap_id (by omega) (by omega)]
      have := ih k (i + wd s i) (a ++ [(rn s i : Int)]) (b ++ [(i : Int)]) (by omega) (by omega) (by simp; omega) (by simp; omega) (by omega)
      rw [show ((i : Int) + (wd s i : Int)) = ((i + wd s i : Nat) : Int) by omega, this, from_lt hi]
      simp
    · rw [cambiumref02_Runes.l0, if_neg (by omega), from_ge hi]; simp
theorem runes_eq (k : Nat) (s : ByteArray) (hs : s.size ≤ 1000000) (hk : s.size + 13 < k) : cambiumref02_Runes.f k s = some (runesI s, posI s) := by
  unfold cambiumref02_Runes.f
  have := runes_l0 s hs s.size k 0 [] [] (by omega) (by omega) (by simp) (by simp) hk
  simpa [runesI, posI] using this

/-- Is a text UTF-8, from a place on? -/
def utfFrom (s : ByteArray) (i : Nat) : Bool := (from_ s i).all fun j => !(rn s j == 65533 && wd s j == 1)
theorem utf_l0 (s : ByteArray) (hs : s.size ≤ 1000000) (d : Nat) : ∀ (k i : Nat), s.size - i ≤ d → i ≤ s.size → d + 13 < k → cambiumref02_Utf.l0 k s (i : Int) = some (utfFrom s i) := by
  induction d with
  | zero =>
    intro k i h1 h2 hk
    obtain ⟨k, rfl⟩ : ∃ m, k = m + 1 := ⟨k - 1, by omega⟩
    rw [cambiumref02_Utf.l0, if_neg (by omega)]
    unfold utfFrom
    rw [from_ge (by omega)]; rfl
  | succ d ih =>
    intro k i h1 h2 hk
    obtain ⟨k, rfl⟩ : ∃ m, k = m + 1 := ⟨k - 1, by omega⟩
    by_cases hi : i < s.size
    · have hw := dec_bounds s i hi
      have hr := ih k (i + wd s i) (by omega) (by omega) (by omega)
      rw [show ((i + wd s i : Nat) : Int) = (i : Int) + (wd s i : Int) by omega] at hr
      rw [cambiumref02_Utf.l0, if_pos (by omega), if_pos (by omega), if_pos (by omega), Int.toNat_natCast, rune_at k s i hi (by omega), Option.bind_some, wrap_id (by omega) (by omega), hr]
      have hu : utfFrom s i = (!(rn s i == 65533 && wd s i == 1) && utfFrom s (i + wd s i)) := by
        unfold utfFrom; rw [from_lt hi]; rfl
      rw [hu]
      by_cases h3 : rn s i = 65533
      · by_cases h4 : wd s i = 1
        · rw [if_pos (by omega), if_pos (by omega), h3, h4]; rfl
        · rw [if_pos (by omega), if_neg (by omega)]; simp [h4]
      · rw [if_neg (by omega)]; simp [h3]
    · rw [cambiumref02_Utf.l0, if_neg (by omega)]
      unfold utfFrom
      rw [from_ge hi]; rfl
theorem utf_eq (k : Nat) (s : ByteArray) (hs : s.size ≤ 1000000) (hk : s.size + 13 < k) : cambiumref02_Utf.f k s = some (utfFrom s 0) := by
  unfold cambiumref02_Utf.f
  exact utf_l0 s hs s.size k 0 (by omega) (by omega) hk

def rightB (s : ByteArray) : Bool := (runesI s).all okI && utfFrom s 0
theorem right_l0 (s : ByteArray) (l : List Int) (hs : s.size ≤ 1000000) (hl : l.length ≤ 1000000) (d : Nat) : ∀ (k i : Nat), l.length - i ≤ d → i ≤ l.length → d + s.size + 15 < k →
    cambiumref02_Right.l0 k s l (i : Int) = some ((l.drop i).all okI && utfFrom s 0) := by
  induction d with
  | zero =>
    intro k i h1 h2 hk
    obtain ⟨k, rfl⟩ : ∃ m, k = m + 1 := ⟨k - 1, by omega⟩
    rw [cambiumref02_Right.l0, if_neg (by omega), utf_eq k s hs (by omega), List.drop_of_length_le (by omega)]; rfl
  | succ d ih =>
    intro k i h1 h2 hk
    obtain ⟨k, rfl⟩ : ∃ m, k = m + 1 := ⟨k - 1, by omega⟩
    by_cases hi : i < l.length
    · have hr := ih k (i + 1) (by omega) (by omega) (by omega)
      rw [show ((i + 1 : Nat) : Int) = (i : Int) + 1 by omega] at hr
      rw [cambiumref02_Right.l0, if_pos (by omega), if_pos (by omega), wrap_id (by omega) (by omega), hr, rd_drop hi, List.all_cons]
      generalize rd l (i : Int) = r
      unfold okI
      by_cases h3 : r < 32
      · rw [if_pos h3]; simp [h3]
      · rw [if_neg h3]
        by_cases h4 : r ≥ 127
        · by_cases h5 : r ≤ 159
          · rw [if_pos h4, if_pos h5]; simp [h4, h5]
          · rw [if_pos h4, if_neg h5]; simp [h3, h5]
        · rw [if_neg h4]; simp [h3, h4]
    · rw [cambiumref02_Right.l0, if_neg (by omega), utf_eq k s hs (by omega), List.drop_of_length_le (by omega)]; rfl
theorem runesI_len (s : ByteArray) : (runesI s).length ≤ s.size := by
  unfold runesI
  rw [List.length_map]
  have := from_len s s.size 0 (by omega)
  omega
theorem right_eq (k : Nat) (s : ByteArray) (hs : s.size ≤ 1000000) (hk : 2 * s.size + 16 < k) : cambiumref02_Right.f k s = some (rightB s) := by
  unfold cambiumref02_Right.f
  have hl := runesI_len s
  rw [runes_eq k s hs (by omega), Option.bind_some]
  have := right_l0 s (runesI s) hs (by omega) (runesI s).length k 0 (by omega) (by omega) (by omega)
  simpa [rightB] using this

end Go.Proofs.Ytenmjbcedadcbaa.Runes

namespace Go.Proofs.Ytenmjbcedadcbaa.NumFacts
set_option linter.unusedVariables false
open Go.RowKit Go.Proofs.Ytenmjbcedadcbaa.PAll Go.Proofs.YtenmjbcedadcbaaW.PrintWords Go.Proofs.YtenmjbcedadcbaaW.PrintLast Go.Proofs.YtenmjbcedadcbaaW.PrintMore Go.Proofs.Ytenmjbcedadcbaa.Math

/-- A number's eight bytes, the greatest first. -/
def key8 (v : Int) : List Int := [v / 72057594037927936 % 256, v / 281474976710656 % 256, v / 1099511627776 % 256, v / 4294967296 % 256, v / 16777216 % 256, v / 65536 % 256, v / 256 % 256, v % 256]
theorem key8_len (v : Int) : (key8 v).length = 8 := rfl
theorem key8_isB (v : Int) : IsB (key8 v) := by
  intro x hx
  simp only [key8, List.mem_cons, List.not_mem_nil, or_false] at hx
  omega
theorem vbig_key8 {v : Int} (h0 : 0 ≤ v) (h1 : v < 18446744073709551616) : vbig (key8 v) = v := by
  simp only [vbig, key8, List.foldl_cons, List.foldl_nil]
  omega

theorem key_step (k : Nat) (v : Int) (l : List Int) (hl : l.length = 8) (i : Nat) (hi : i < 8) :
    num_Key.l0 (k + 1) v l 8 (i : Int) = num_Key.l0 k v (l.set (7 - i) (v / 256 ^ i % 256)) 8 ((i + 1 : Nat) : Int) := by
  rw [num_Key.l0, if_pos (by omega)]
  have e1 : wrap64 (8 * (i : Int)) = 8 * (i : Int) := wrap_id (by omega) (by omega)
  have e2 : wrap64 (7 - (i : Int)) = 7 - (i : Int) := wrap_id (by omega) (by omega)
  have e3 : wrap64 ((i : Int) + 1) = (i : Int) + 1 := wrap_id (by omega) (by omega)
  rw [e1, e2, e3]
  clear e1 e2 e3
  rw [if_pos (by omega), if_pos (by omega), if_pos (by omega)]
  have e4 : (7 - (i : Int)).toNat = 7 - i := by omega
  have e5 : shr .u64 v (8 * (i : Int)) = v / 256 ^ i := by
    unfold shr
    have : min (8 * (i : Int)).toNat (IntKind.bits .u64) = 8 * i := by
      show min (8 * (i : Int)).toNat 64 = 8 * i
      omega
    rw [this, Int.pow_mul]; rfl
  rw [e4, e5]; rfl

theorem key_eq (k : Nat) (v : Int) (hk : 9 ≤ k) : num_Key.f k v = some (key8 v) := by
  obtain ⟨k, rfl⟩ : ∃ m, k = m + 9 := ⟨k - 9, by omega⟩
  unfold num_Key.f
  rw [if_pos (by omega), Option.bind_some]
  show num_Key.l0 (k + 9) v [0, 0, 0, 0, 0, 0, 0, 0] 8 ((0 : Nat) : Int) = _
  rw [key_step _ _ _ rfl 0 (by omega), key_step _ _ _ rfl 1 (by omega), key_step _ _ _ rfl 2 (by omega), key_step _ _ _ rfl 3 (by omega), key_step _ _ _ rfl 4 (by omega), key_step _ _ _ rfl 5 (by omega), key_step _ _ _ rfl 6 (by omega), key_step _ _ _ rfl 7 (by omega), num_Key.l0, if_neg (by omega)]
  simp [key8]

theorem vbig_cons (a : Int) (s : List Int) : vbig (a :: s) = a * 256 ^ s.length + vbig s := by
  have : ∀ (s : List Int) (v : Int), s.foldl (fun v b => v * 256 + b) v = v * 256 ^ s.length + vbig s := by
    intro s
    induction s using snoc_ind with
    | h0 => intro v; simp [vbig]
    | h1 s x ih =>
      intro v
      rw [List.foldl_append, List.foldl_cons, List.foldl_nil, ih, vbig_snoc, List.length_append, List.length_singleton, Int.pow_succ, Int.add_mul, Int.mul_assoc]
      omega
  have h := this s a
  simp only [vbig, List.foldl_cons] at h ⊢
  simpa using h
theorem lex_vbig : ∀ {a b : List Int}, a.length = b.length → IsB a → IsB b → lexLt a b = decide (vbig a < vbig b)
  | [], [], _, _, _ => by simp [lexLt]
  | [], _ :: _, h, _, _ => by simp at h
  | _ :: _, [], h, _, _ => by simp at h
  | x :: a, y :: b, h, ha, hb => by
    have hl : a.length = b.length := by simpa using h
    have ha' : IsB a := fun z hz => ha z (by simp [hz])
    have hb' : IsB b := fun z hz => hb z (by simp [hz])
    rw [vbig_cons, vbig_cons, ← hl]
    simp only [lexLt]
    have a0 := vbig_nonneg ha'
    have a1 := vbig_lt ha'
    have b0 := vbig_nonneg hb'
    have b1 := vbig_lt hb'
    rw [← hl] at b1
    by_cases e : x = y
    · subst e
      rw [if_pos rfl, lex_vbig hl ha' hb']
      congr 1
      simp
    · rw [if_neg e]
      generalize (256 : Int) ^ a.length = P at *
      have hP : 0 < P := by omega
      rcases Int.lt_or_lt_of_ne e with h1 | h1
      · have := Int.mul_le_mul_of_nonneg_right (show x + 1 ≤ y by omega) (Int.le_of_lt hP)
        rw [Int.add_mul, Int.one_mul] at this
        rw [decide_eq_true h1, decide_eq_true (by omega)]
      · have := Int.mul_le_mul_of_nonneg_right (show y + 1 ≤ x by omega) (Int.le_of_lt hP)
        rw [Int.add_mul, Int.one_mul] at this
        rw [decide_eq_false (by omega), decide_eq_false (by omega)]
theorem lex_key8 (a b : Int) (a0 : 0 ≤ a) (a1 : a < 18446744073709551616) (b0 : 0 ≤ b) (b1 : b < 18446744073709551616) : lexLt (key8 a) (key8 b) = decide (a < b) := by
  rw [lex_vbig (by rw [key8_len, key8_len]) (key8_isB _) (key8_isB _), vbig_key8 a0 a1, vbig_key8 b0 b1]
theorem key8_inj {a b : Int} (a0 : 0 ≤ a) (a1 : a < 18446744073709551616) (b0 : 0 ≤ b) (b1 : b < 18446744073709551616) (h : key8 a = key8 b) : a = b := by
  rw [← vbig_key8 a0 a1, ← vbig_key8 b0 b1, h]
theorem lex_key8_app (a b : Int) (x y : List Int) (a0 : 0 ≤ a) (a1 : a < 18446744073709551616) (b0 : 0 ≤ b) (b1 : b < 18446744073709551616) : lexLt (key8 a ++ x) (key8 b ++ y) = if a = b then lexLt x y else decide (a < b) := by
  rw [lexLt_append_eq_len _ _ _ _ (by rw [key8_len, key8_len]), lex_key8 a b a0 a1 b0 b1]
  by_cases h : a = b
  · subst h; rw [if_pos rfl, if_pos rfl]
  · rw [if_neg h, if_neg (fun e => h (key8_inj a0 a1 b0 b1 e))]
end Go.Proofs.Ytenmjbcedadcbaa.NumFacts

namespace Go.Proofs.Ytenmjbcedadcbaa.Pure
open Go.RowKit Go.Proofs.YtenmjbcedadcbaaW.PrintWords Go.Proofs.YtenmjbcedadcbaaW.PrintLast Go.Proofs.YtenmjbcedadcbaaW.PrintMore Go.Proofs.Ytenmjbcedadcbaa.Math
open Go.Proofs.Ytenmjbcedadcbaa.PAll Go.Proofs.Ytenmjbcedadcbaa.Runes Go.Proofs.Ytenmjbcedadcbaa.NumFacts
set_option linter.unusedVariables false
set_option linter.unusedSimpArgs false
def timeB (n : Int) : Bool := if n ≥ 0 then decide (n ≤ 1152921504606846976) else false
def rightT (s : ByteArray) : Bool := Lib.validD s.data.toList && (runesI s).all okI
def nameB (s : ByteArray) : Bool := if s.toList = ([] : List UInt8) then false else if (s.size : Int) ≤ 32 then rightT s else false
def evBad (x : S53) : Bool := !(timeB x.f0) || !(nameB x.f1)
def liBad (x : S58) : Bool := x.f0 == 0 || x.f1 == 0
theorem drop_z {α : Type} {l : List α} {z : α} {i : Nat} (h : i < l.length) : l.drop i = l.getD i z :: l.drop (i + 1) := by
  rw [List.drop_eq_getElem_cons h, List.getD_eq_getElem?_getD, List.getElem?_eq_getElem h]
  rfl
/-- A value's bare form is the value. -/
def bareB (k : Int) (s : ByteArray) (n : Int) (b : Bool) : Bool :=
  if k = 0 then (n == 0) && !b else if k = 1 then (s.toList == ([] : List UInt8)) && !b else if k = 2 then (s.toList == ([] : List UInt8)) && (n == 0) else false
def mvB (k : Int) (s : ByteArray) (n : Int) (b : Bool) : Bool := bareB k s n b && (decide ((s.size : Int) ≤ 200) && rightT s)
theorem drop_ext (s : ByteArray) (i : Nat) : (⟨(s.data.toList.drop i).toArray⟩ : ByteArray) = s.extract i s.size := by
  ext1
  rw [ByteArray.data_extract]
  apply Array.ext'
  rw [Array.toList_extract]
  simp [List.extract_eq_take_drop, List.take_of_length_le]
theorem decL_drop (s : ByteArray) (i : Nat) : Lib.decodeL (s.data.toList.drop i) = (rn s i, wd s i) := by
  unfold Lib.decodeL
  rw [drop_ext, dec_extract]
  rfl
theorem valid_utf (s : ByteArray) : ∀ (d i : Nat), s.size - i ≤ d → Lib.validD (s.data.toList.drop i) = utfFrom s i := by
  intro d
  induction d with
  | zero =>
    intro i h
    have h0 : s.data.toList.drop i = [] := List.drop_eq_nil_of_le (by have := data_size s; rw [Array.length_toList]; omega)
    rw [h0, Lib.validD_nil]
    unfold utfFrom
    rw [from_ge (by omega)]
    rfl
  | succ d ih =>
    intro i h
    by_cases hlt : i < s.size
    · have hne : s.data.toList.drop i ≠ [] := by
        intro h0
        have := congrArg List.length h0
        rw [List.length_drop, Array.length_toList, data_size] at this
        simp at this
        omega
      have hb := dec_bounds s i hlt
      rw [Lib.validD_step _ hne, decL_drop, List.drop_drop, ih (i + wd s i) (by omega)]
      unfold utfFrom
      rw [from_lt hlt, List.all_cons]
      by_cases hc : rn s i = 65533 ∧ wd s i = 1
      · rw [if_pos hc]; simp [hc.1, hc.2]
      · rw [if_neg hc]
        have hc' : (rn s i == 65533 && wd s i == 1) = false := by
          rw [Bool.and_eq_false_iff, beq_eq_false_iff_ne, beq_eq_false_iff_ne]
          omega
        rw [hc']; rfl
    · have h0 : s.data.toList.drop i = [] := List.drop_eq_nil_of_le (by have := data_size s; rw [Array.length_toList]; omega)
      rw [h0, Lib.validD_nil]
      unfold utfFrom
      rw [from_ge hlt]
      rfl
theorem right_same (s : ByteArray) : (Lib.validD s.data.toList && (runesI s).all okI) = rightB s := by
  have h := valid_utf s s.size 0 (by omega)
  rw [List.drop_zero] at h
  rw [h]
  unfold rightB
  exact Bool.and_comm _ _
theorem wsuc (i : Nat) (h : i ≤ 200000000000000) : wrap64 ((i : Int) + 1) = ((i + 1 : Nat) : Int) := by unfold wrap64; omega
theorem small_l1 (a b c : Int) (s o : ByteArray) (d e f : Int) (A : List S51) (E : List S53) (L : List S58) (hE : E.length ≤ 140737488351232) (n : Nat) :
    ∀ (k i : Nat) (x : Int), E.length - i ≤ n → n < k → ∃ r, cambiumref16_Small.l1 k x (i : Int) a b c s o d e f A E L = some r := by
  induction n with
  | zero =>
    intro k i x h hk
    obtain ⟨k, rfl⟩ : ∃ j, k = j + 1 := ⟨k - 1, by omega⟩
    exact ⟨_, by rw [cambiumref16_Small.l1, if_neg (by omega)]⟩
  | succ n ih =>
    intro k i x h hk
    obtain ⟨k, rfl⟩ : ∃ j, k = j + 1 := ⟨k - 1, by omega⟩
    by_cases hlt : i < E.length
    · rw [cambiumref16_Small.l1, if_pos (by omega)]
      by_cases hx : x ≤ 6000
      · rw [if_pos hx, if_pos (by omega), wsuc i (by omega)]
        exact ih k (i + 1) _ (by omega) (by omega)
      · exact ⟨_, by rw [if_neg hx]⟩
    · exact ⟨_, by rw [cambiumref16_Small.l1, if_neg (by omega)]⟩
theorem small_l0 (a b c : Int) (s o : ByteArray) (d e f : Int) (A : List S51) (E : List S53) (L : List S58) (hA : A.length ≤ 140737488351232) (hE : E.length ≤ 140737488351232) (n : Nat) :
    ∀ (k i : Nat) (x : Int), A.length - i ≤ n → n + E.length + 2 < k → ∃ r, cambiumref16_Small.l0 k x (i : Int) a b c s o d e f A E L = some r := by
  have hend : ∀ (k : Nat) (x : Int), E.length + 1 < k → ∃ r, cambiumref16_Small.j1 k x a b c s o d e f A E L = some r := by
    intro k x hk
    obtain ⟨k, rfl⟩ : ∃ j, k = j + 1 := ⟨k - 1, by omega⟩
    rw [cambiumref16_Small.j1]
    exact small_l1 a b c s o d e f A E L hE E.length k 0 x (by omega) (by omega)
  induction n with
  | zero =>
    intro k i x h hk
    obtain ⟨k, rfl⟩ : ∃ j, k = j + 1 := ⟨k - 1, by omega⟩
    rw [cambiumref16_Small.l0, if_neg (by omega)]
    exact hend k x (by omega)
  | succ n ih =>
    intro k i x h hk
    obtain ⟨k, rfl⟩ : ∃ j, k = j + 1 := ⟨k - 1, by omega⟩
    by_cases hlt : i < A.length
    · rw [cambiumref16_Small.l0, if_pos (by omega)]
      by_cases hx : x ≤ 6000
      · rw [if_pos hx, if_pos (by omega), wsuc i (by omega)]
        exact ih k (i + 1) _ (by omega) (by omega)
      · rw [if_neg hx]
        exact hend k x (by omega)
    · rw [cambiumref16_Small.l0, if_neg (by omega)]
      exact hend k x (by omega)
theorem small_some (k : Nat) (a b c : Int) (s o : ByteArray) (d e f : Int) (A : List S51) (E : List S53) (L : List S58) (hA : A.length ≤ 140737488351232) (hE : E.length ≤ 140737488351232) (hk : A.length + E.length + 3 < k) :
    ∃ r, cambiumref16_Small.f k a b c s o d e f A E L = some r := by
  unfold cambiumref16_Small.f
  exact small_l0 a b c s o d e f A E L hA hE A.length k 0 _ (by omega) (by omega)
def nums (l : List UInt8) : List Int := l.map fun b => (b.toNat : Int)
theorem less_txt (k : Nat) (s t : ByteArray) (hs : s.size ≤ 1000) (hk : 2100 < k) : cambiumref01_Less.f k (bytesOf s) (bytesOf t) = some (lexLt (nums s.data.toList) (nums t.data.toList)) := by
  rw [less_eq k _ _ (by rw [bytesOf_length]; omega) (by rw [bytesOf_length]; omega)]
  rfl
theorem right_ref (k : Nat) (s : ByteArray) (h : (s.size : Int) ≤ 200) (hk : 500 < k) : cambiumref02_Right.f k s = some (rightT s) := by
  rw [Runes.right_eq k s (by omega) (by omega)]
  unfold rightT
  rw [right_same]
theorem refval (k : Nat) (k0 : Int) (s : ByteArray) (n : Int) (b : Bool) (hk : 500 < k) : cambiumref16_Value.f k k0 s n b = some (mvB k0 s n b) := by
  have hr : (if (s.size : Int) ≤ 200 then ((cambiumref02_Right.f k s).bind fun t => some t) else some false) = some (decide ((s.size : Int) ≤ 200) && rightT s) := by
    by_cases h : (s.size : Int) ≤ 200
    · rw [if_pos h, right_ref k s h hk, Option.bind_some, decide_eq_true h, Bool.true_and]
    · rw [if_neg h, decide_eq_false h, Bool.false_and]
  unfold cambiumref16_Value.f mvB bareB
  by_cases h1 : k0 < 0
  · rw [if_pos h1, if_neg (by omega), if_neg (by omega), if_neg (by omega), Bool.false_and]
  rw [if_neg h1]
  by_cases h2 : k0 > 2
  · rw [if_pos h2, if_neg (by omega), if_neg (by omega), if_neg (by omega), Bool.false_and]
  rw [if_neg h2]
  by_cases z0 : k0 = 0
  · rw [if_pos z0, if_neg (show ¬ k0 = 1 by omega), if_neg (show ¬ k0 = 2 by omega), if_pos z0, hr]
    by_cases hn : n = 0
    · rw [if_pos hn, beq_iff_eq.mpr hn]
      cases b
      · rw [if_neg Bool.false_ne_true]; rfl
      · rw [if_pos rfl]; rfl
    · rw [if_neg hn, beq_eq_false_iff_ne.mpr hn]; rfl
  · rw [if_neg z0, if_neg z0]
    by_cases hs : s.toList = ([] : List UInt8)
    · rw [if_pos hs, beq_iff_eq.mpr hs, hr]
      by_cases z1 : k0 = 1
      · rw [if_pos z1, if_neg (show ¬ k0 = 2 by omega), if_pos z1]
        cases b
        · rw [if_neg Bool.false_ne_true]; rfl
        · rw [if_pos rfl]; rfl
      · have z2 : k0 = 2 := by omega
        rw [if_neg z1, if_pos z2, if_neg z1, if_pos z2]
        by_cases hn : n = 0
        · rw [if_pos hn, beq_iff_eq.mpr hn]; rfl
        · rw [if_neg hn, beq_eq_false_iff_ne.mpr hn]; rfl
    · rw [if_neg hs, beq_eq_false_iff_ne.mpr hs]
      by_cases z1 : k0 = 1
      · rw [if_pos z1]; rfl
      · rw [if_neg z1, if_pos (by omega)]; rfl
def at_ (A : List S51) (i : Nat) : S51 := A.getD i z51
def mvA (x : S51) : Bool := mvB x.f1.f0 x.f1.f1 x.f1.f2 x.f1.f3
def ordA (A : List S51) (i : Nat) : Bool := if i = 0 then true else lexLt (nums (at_ A (i - 1)).f0.data.toList) (nums (at_ A i).f0.data.toList)
/-- So many attributes, from one on, may be. -/
def attrsOk (A : List S51) : Nat → Nat → Bool
  | 0, _ => true
  | n + 1, i => if nameB (at_ A i).f0 = true then (if mvA (at_ A i) = true then (if ordA A i = true then attrsOk A n (i + 1) else false) else false) else false
theorem wpre (i : Nat) (h : i + 1 ≤ 200000000000000) : wrap64 (((i + 1 : Nat) : Int) - 1) = (i : Int) := by unfold wrap64; omega
theorem name_size (s : ByteArray) (h : nameB s = true) : s.size ≤ 32 := by
  unfold nameB at h
  split at h
  · cases h
  · split at h
    · omega
    · cases h
def HeadP (a b c : Int) (s o : ByteArray) (d e f : Int) : Prop := a ≠ 0 ∧ b ≠ 0 ∧ c ≠ b ∧ nameB s = true ∧ nameB o = true ∧ timeB d = true ∧ timeB e = true ∧ 0 ≤ f ∧ f ≤ 2
def BodyP (A : List S51) (E : List S53) (L : List S58) : Prop :=
  attrsOk A A.length 0 = true ∧ (A.length : Int) ≤ 16 ∧ (E.length : Int) ≤ 16 ∧ (L.length : Int) ≤ 16 ∧ E.any evBad = false ∧ L.any liBad = false
theorem no_of {P : Prop} (h : ¬ P) : ∃ r, (some false : Option Bool) = some r ∧ (r = true ↔ P) := ⟨false, rfl, ⟨fun h => (by cases h), fun p => absurd p h⟩⟩
theorem refname (k : Nat) (s : ByteArray) (hk : 500 < k) : cambiumref16_Name.f k s = some (nameB s) := by
  unfold cambiumref16_Name.f nameB
  by_cases h : s.toList = ([] : List UInt8)
  · have hs : s.size = 0 := by rw [ByteArray.toList_eq] at h; have := congrArg List.length h; rw [Array.length_toList] at this; exact this
    rw [if_pos h, if_neg (by omega)]
  · have hs : (s.size : Int) ≥ 1 := by
      apply Classical.byContradiction
      intro hn
      apply h
      rw [ByteArray.toList_eq]
      apply List.eq_nil_of_length_eq_zero
      rw [Array.length_toList]
      show s.size = 0
      omega
    rw [if_neg h, if_pos hs]
    by_cases h2 : (s.size : Int) ≤ 32
    · rw [if_pos h2, if_pos h2, right_ref k s (by omega) hk, Option.bind_some]
    · rw [if_neg h2, if_neg h2]
theorem reftime (n : Int) : cambiumref16_time.f n = some (timeB n) := by
  unfold cambiumref16_time.f timeB
  split <;> rfl
theorem may_l2 (a b c : Int) (s o : ByteArray) (d e f : Int) (A : List S51) (E : List S53) (L : List S58) (hL : L.length ≤ 140737488351232) (n : Nat) : ∀ (k i : Nat), L.length - i ≤ n → n < k → cambiumref16_May.l2 k (i : Int) a b c s o d e f A E L = some (!((L.drop i).any liBad)) := by
  have hend : ∀ (k i : Nat), ¬ i < L.length → cambiumref16_May.l2 (k + 1) (i : Int) a b c s o d e f A E L = some (!((L.drop i).any liBad)) := by
    intro k i h
    rw [cambiumref16_May.l2, if_neg (by omega), List.drop_eq_nil_of_le (by omega)]
    rfl
  induction n with
  | zero =>
    intro k i h hk
    obtain ⟨k, rfl⟩ : ∃ j, k = j + 1 := ⟨k - 1, by omega⟩
    exact hend k i (by omega)
  | succ n ih =>
    intro k i h hk
    obtain ⟨k, rfl⟩ : ∃ j, k = j + 1 := ⟨k - 1, by omega⟩
    by_cases hlt : i < L.length
    · have hx : rd_T58 L (i : Int) = L.getD i z58 := rfl
      rw [cambiumref16_May.l2, if_pos (by omega), if_pos (by omega), hx, drop_z (z := z58) hlt, List.any_cons, wsuc i (by omega)]
      unfold liBad at ih ⊢
      by_cases h0 : (L.getD i z58).f0 = 0
      · rw [if_pos h0, beq_iff_eq.mpr h0]; rfl
      · rw [if_neg h0, beq_eq_false_iff_ne.mpr h0]
        by_cases h1 : (L.getD i z58).f1 = 0
        · rw [if_pos h1, beq_iff_eq.mpr h1]; rfl
        · rw [if_neg h1, beq_eq_false_iff_ne.mpr h1, ih k (i + 1) (by omega) (by omega)]; rfl
    · exact hend k i hlt
theorem may_l1 (a b c : Int) (s o : ByteArray) (d e f : Int) (A : List S51) (E : List S53) (L : List S58) (hE : E.length ≤ 140737488351232) (hL : L.length ≤ 140737488351232) (n : Nat) : ∀ (k i : Nat), E.length - i ≤ n → n + L.length + 502 < k → cambiumref16_May.l1 k (i : Int) a b c s o d e f A E L = some (!((E.drop i).any evBad) && !(L.any liBad)) := by
  have hend : ∀ (k i : Nat), ¬ i < E.length → L.length < k → cambiumref16_May.l1 (k + 1) (i : Int) a b c s o d e f A E L = some (!((E.drop i).any evBad) && !(L.any liBad)) := by
    intro k i h hk
    have h2 := may_l2 a b c s o d e f A E L hL L.length k 0 (by omega) hk
    rw [cambiumref16_May.l1, if_neg (by omega), List.drop_eq_nil_of_le (by omega), (show cambiumref16_May.l2 k 0 a b c s o d e f A E L = _ from h2)]
    rfl
  induction n with
  | zero =>
    intro k i h hk
    obtain ⟨k, rfl⟩ : ∃ j, k = j + 1 := ⟨k - 1, by omega⟩
    exact hend k i (by omega) (by omega)
  | succ n ih =>
    intro k i h hk
    obtain ⟨k, rfl⟩ : ∃ j, k = j + 1 := ⟨k - 1, by omega⟩
    by_cases hlt : i < E.length
    · have hx : rd_T53 E (i : Int) = E.getD i z53 := rfl
      rw [cambiumref16_May.l1, if_pos (by omega), if_pos (by omega), hx, reftime, Option.bind_some, drop_z (z := z53) hlt, List.any_cons, wsuc i (by omega)]
      have hb : evBad (E.getD i z53) = (!(timeB (E.getD i z53).f0) || !(nameB (E.getD i z53).f1)) := rfl
      rw [hb]
      cases ht : timeB (E.getD i z53).f0 with
      | false => rw [if_neg Bool.false_ne_true]; rfl
      | true =>
        rw [if_pos rfl, refname k _ (by omega), Option.bind_some]
        cases hn : nameB (E.getD i z53).f1 with
        | false => rw [if_neg Bool.false_ne_true]; rfl
        | true => rw [if_pos rfl, ih k (i + 1) (by omega) (by omega)]; rfl
    · exact hend k i hlt (by omega)
theorem may_l0 (a b c : Int) (s o : ByteArray) (d e f : Int) (A : List S51) (E : List S53) (L : List S58) (hA : A.length ≤ 16) (hE : E.length ≤ 140737488351232) (hL : L.length ≤ 140737488351232) (n : Nat) : ∀ (k i : Nat), A.length - i = n → i ≤ A.length → n + E.length + L.length + 2203 < k → (∀ j, i = j + 1 → (at_ A j).f0.size ≤ 1000) →
    cambiumref16_May.l0 k (i : Int) a b c s o d e f A E L = some (attrsOk A n i && (!(E.any evBad) && !(L.any liBad))) := by
  induction n with
  | zero =>
    intro k i h hi hk hp
    obtain ⟨k, rfl⟩ : ∃ j, k = j + 1 := ⟨k - 1, by omega⟩
    have h2 := may_l1 a b c s o d e f A E L hE hL E.length k 0 (by omega) (by omega)
    rw [cambiumref16_May.l0, if_neg (by omega), attrsOk, Bool.true_and, (show cambiumref16_May.l1 k 0 a b c s o d e f A E L = _ from h2)]
    rfl
  | succ n ih =>
    intro k i h hi hk hp
    obtain ⟨k, rfl⟩ : ∃ j, k = j + 1 := ⟨k - 1, by omega⟩
    have hx : rd_T51 A (i : Int) = at_ A i := rfl
    rw [cambiumref16_May.l0, if_pos (by omega), if_pos (by omega), hx, refname k _ (by omega), Option.bind_some, attrsOk]
    cases hn : nameB (at_ A i).f0 with
    | false => rw [if_neg Bool.false_ne_true, if_neg Bool.false_ne_true, Bool.false_and]
    | true =>
      have hm := refval k (at_ A i).f1.f0 (at_ A i).f1.f1 (at_ A i).f1.f2 (at_ A i).f1.f3 (by omega)
      have hsz := name_size _ hn
      rw [if_pos rfl, if_pos rfl, hm, Option.bind_some]
      have hmv : mvB (at_ A i).f1.f0 (at_ A i).f1.f1 (at_ A i).f1.f2 (at_ A i).f1.f3 = mvA (at_ A i) := rfl
      rw [hmv]
      cases hv : mvA (at_ A i) with
      | false => rw [if_neg Bool.false_ne_true, if_neg Bool.false_ne_true, Bool.false_and]
      | true =>
        rw [if_pos rfl, if_pos rfl, wsuc i (by omega)]
        cases i with
        | zero =>
          have ho : ordA A 0 = true := rfl
          rw [if_neg (by omega), if_pos ho]
          exact ih k 1 (by omega) (by omega) (by omega) (fun j hj => by have : j = 0 := by omega
                                                                        subst this; omega)
        | succ j =>
          have hy : rd_T51 A (j : Int) = at_ A j := rfl
          have ho : ordA A (j + 1) = lexLt (nums (at_ A j).f0.data.toList) (nums (at_ A (j + 1)).f0.data.toList) := rfl
          have hps : (at_ A j).f0.size ≤ 1000 := hp j rfl
          rw [if_pos (by omega), wpre j (by omega), if_pos (by omega), if_pos (by omega), hy, if_pos (by omega), if_pos (by omega), less_txt k _ _ hps (by omega), Option.bind_some, ho]
          cases hl : lexLt (nums (at_ A j).f0.data.toList) (nums (at_ A (j + 1)).f0.data.toList) with
          | false => rw [if_neg Bool.false_ne_true, if_neg Bool.false_ne_true, Bool.false_and]
          | true =>
            rw [if_pos rfl, if_pos rfl]
            exact ih k (j + 1 + 1) (by omega) (by omega) (by omega) (fun m hm => by have : m = j + 1 := by omega
                                                                                    subst this; omega)
theorem ref_may (k : Nat) (a b c : Int) (s o : ByteArray) (d e f : Int) (A : List S51) (E : List S53) (L : List S58) (hE : E.length ≤ 140737488351232) (hL : L.length ≤ 140737488351232) (hk : E.length + L.length + 2300 < k) :
    ∃ r, cambiumref16_May.f k a b c s o d e f A E L = some r ∧ (r = true ↔ HeadP a b c s o d e f ∧ BodyP A E L) := by
  obtain ⟨k, rfl⟩ : ∃ j, k = j + 1 + 1 := ⟨k - 2, by omega⟩
  have hf : cambiumref16_May.j0 (k + 1 + 1) true a b c s o d e f A E L = some false := by rw [cambiumref16_May.j0, if_pos rfl]
  have hf1 : cambiumref16_May.j1 (k + 1) true a b c s o d e f A E L = some false := by rw [cambiumref16_May.j1, if_pos rfl]
  unfold cambiumref16_May.f
  by_cases h0 : a = 0
  · rw [if_pos h0, hf]; exact no_of (fun h => h.1.1 h0)
  rw [if_neg h0]
  by_cases h1 : b = 0
  · rw [if_pos h1, hf]; exact no_of (fun h => h.1.2.1 h1)
  rw [if_neg h1]
  by_cases h2 : c = b
  · rw [if_pos h2, hf]; exact no_of (fun h => h.1.2.2.1 h2)
  rw [if_neg h2, refname _ s (by omega), Option.bind_some]
  cases h3 : nameB s with
  | false => rw [if_neg Bool.false_ne_true, hf]; exact no_of (fun h => by have := h.1.2.2.2.1; rw [h3] at this; cases this)
  | true =>
  rw [if_pos rfl, refname _ o (by omega), Option.bind_some]
  cases h4 : nameB o with
  | false => rw [if_neg Bool.false_ne_true, hf]; exact no_of (fun h => by have := h.1.2.2.2.2.1; rw [h4] at this; cases this)
  | true =>
  rw [if_pos rfl, reftime, Option.bind_some]
  cases h5 : timeB d with
  | false => rw [if_neg Bool.false_ne_true, hf]; exact no_of (fun h => by have := h.1.2.2.2.2.2.1; rw [h5] at this; cases this)
  | true =>
  rw [if_pos rfl, reftime, Option.bind_some]
  cases h6 : timeB e with
  | false => rw [if_neg Bool.false_ne_true, hf]; exact no_of (fun h => by have := h.1.2.2.2.2.2.2.1; rw [h6] at this; cases this)
  | true =>
  rw [if_pos rfl]
  by_cases h7 : f < 0
  · rw [if_pos h7, hf]; exact no_of (fun h => by have := h.1.2.2.2.2.2.2.2.1; omega)
  rw [if_neg h7]
  by_cases h8 : f > 2
  · rw [decide_eq_true h8, hf]; exact no_of (fun h => by have := h.1.2.2.2.2.2.2.2.2; omega)
  have hh : HeadP a b c s o d e f := ⟨h0, h1, h2, h3, h4, h5, h6, by omega, by omega⟩
  rw [decide_eq_false h8, cambiumref16_May.j0, if_neg Bool.false_ne_true]
  by_cases h9 : (A.length : Int) > 16
  · rw [if_pos h9, hf1]; exact no_of (fun h => by have := h.2.2.1; omega)
  rw [if_neg h9]
  by_cases h10 : (E.length : Int) > 16
  · rw [if_pos h10, hf1]; exact no_of (fun h => by have := h.2.2.2.1; omega)
  rw [if_neg h10]
  by_cases h11 : (L.length : Int) > 16
  · rw [decide_eq_true h11, hf1]; exact no_of (fun h => by have := h.2.2.2.2.1; omega)
  have h12 := may_l0 a b c s o d e f A E L (by omega) hE hL A.length k 0 (by omega) (by omega) (by omega) (fun j hj => by omega)
  rw [decide_eq_false h11, cambiumref16_May.j1, if_neg Bool.false_ne_true, (show cambiumref16_May.l0 k 0 a b c s o d e f A E L = _ from h12)]
  refine ⟨_, rfl, ?_⟩
  rw [Bool.and_eq_true, Bool.and_eq_true, Bool.not_eq_true', Bool.not_eq_true']
  exact ⟨fun h => ⟨hh, h.1, by omega, by omega, by omega, h.2.1, h.2.2⟩, fun h => ⟨h.2.1, h.2.2.2.2.2.1, h.2.2.2.2.2.2⟩⟩
end Go.Proofs.Ytenmjbcedadcbaa.Pure

namespace Go.Proofs.Ytenmjbcedadcbaa.Pure
open Go.RowKit Go.Proofs.YtenmjbcedadcbaaW.PrintWords Go.Proofs.YtenmjbcedadcbaaW.PrintLast Go.Proofs.YtenmjbcedadcbaaW.PrintMore Go.Proofs.Ytenmjbcedadcbaa.Math
open Go.Proofs.Ytenmjbcedadcbaa.PAll Go.Proofs.Ytenmjbcedadcbaa.Runes Go.Proofs.Ytenmjbcedadcbaa.NumFacts
set_option linter.unusedVariables false
set_option linter.unusedSimpArgs false

theorem time_le (n : Int) (h : timeB n = true) : 0 ≤ n ∧ n ≤ 1152921504606846976 := by
  unfold timeB at h
  split at h
  · exact ⟨by assumption, of_decide_eq_true h⟩
  · cases h
theorem decN_high (n c0 c1 c2 c3 : Nat) (h0 : 128 ≤ c0) : 128 ≤ (Lib.decodeN n c0 c1 c2 c3).1 ∧ (Lib.decodeN n c0 c1 c2 c3).2 ≤ 4 ∧ (1 < (Lib.decodeN n c0 c1 c2 c3).2 → 128 ≤ c1) ∧
    (2 < (Lib.decodeN n c0 c1 c2 c3).2 → 128 ≤ c2) ∧ (3 < (Lib.decodeN n c0 c1 c2 c3).2 → 128 ≤ c3) := by
  unfold Lib.decodeN
  split
  · omega
  split
  · split <;> (simp only; omega)
  split
  · split <;> (simp only; omega)
  split
  · split <;> (simp only; omega)
  · simp only; omega
/-- No byte of a rune that may be is a 0. -/
theorem dec_some (s : ByteArray) (i : Nat) (h : i < s.size) (hok : okI (rn s i : Int) = true) : ∀ j, j < wd s i → 0 < nb s (i + j) := by
  have hd : Utf8.decode s i = Lib.decodeN (s.size - i) (nb s i) (nb s (i + 1)) (nb s (i + 2)) (nb s (i + 3)) := Lib.decode_at s i
  unfold wd
  unfold rn at hok
  rw [hd] at hok ⊢
  by_cases h0 : nb s i < 128
  · have e : Lib.decodeN (s.size - i) (nb s i) (nb s (i + 1)) (nb s (i + 2)) (nb s (i + 3)) = (nb s i, 1) := by
      unfold Lib.decodeN
      rw [if_pos h0]
    rw [e] at hok ⊢
    intro j hj
    have hj0 : j = 0 := Nat.lt_one_iff.mp hj
    subst hj0
    rw [Nat.add_zero]
    apply Classical.byContradiction
    intro hz
    have hz : nb s i = 0 := by omega
    rw [hz] at hok
    exact absurd hok (by decide)
  · obtain ⟨h1, h4, h5, h6, h7⟩ := decN_high (s.size - i) (nb s i) (nb s (i + 1)) (nb s (i + 2)) (nb s (i + 3)) (by omega)
    generalize Lib.decodeN (s.size - i) (nb s i) (nb s (i + 1)) (nb s (i + 2)) (nb s (i + 3)) = d at *
    intro j hj
    have hj' : j = 0 ∨ j = 1 ∨ j = 2 ∨ j = 3 := by omega
    rcases hj' with rfl | rfl | rfl | rfl
    · rw [Nat.add_zero]; omega
    · have := h5 (by omega); omega
    · have := h6 (by omega); omega
    · have := h7 (by omega); omega
theorem runes_some (s : ByteArray) (n : Nat) : ∀ i, s.size - i ≤ n → ((from_ s i).map fun i => (rn s i : Int)).all okI = true → ∀ j, i ≤ j → j < s.size → 0 < nb s j := by
  induction n with
  | zero => intro i h _ j h1 h2; omega
  | succ n ih =>
    intro i h ha j h1 h2
    have hi : i < s.size := by omega
    rw [from_lt hi, List.map_cons, List.all_cons, Bool.and_eq_true] at ha
    have hb := dec_bounds s i hi
    by_cases hj : j < i + wd s i
    · have := dec_some s i hi ha.1 (j - i) (by omega)
      rwa [show i + (j - i) = j by omega] at this
    · exact ih (i + wd s i) (by omega) ha.2 j (by omega) h2
/-- A row without a 0. -/
def NoZ (l : List Int) : Prop := ∀ x ∈ l, 0 < x
theorem name_nz (s : ByteArray) (h : nameB s = true) : NoZ (bytesOf s) := by
  unfold nameB at h
  split at h
  · cases h
  · split at h
    · unfold rightT at h
      rw [Bool.and_eq_true] at h
      have hr := runes_some s s.size 0 (by omega) h.2
      intro x hx
      unfold bytesOf at hx
      obtain ⟨b, hb, rfl⟩ := List.mem_map.1 hx
      obtain ⟨j, hj, e⟩ := List.mem_iff_getElem.1 hb
      have hjs : j < s.size := by rw [Array.length_toList] at hj; exact hj
      have := hr j (by omega) hjs
      unfold nb at this
      have hg : s.get! j = s.data[j]! := rfl
      rw [hg, getElem!_pos s.data j hjs] at this
      rw [Array.getElem_toList] at e
      rw [e] at this
      exact Int.ofNat_lt.mpr this
    · cases h
theorem bytes_inj {s t : ByteArray} (h : bytesOf s = bytesOf t) : s.toList = t.toList := by
  rw [ByteArray.toList_eq, ByteArray.toList_eq]
  unfold bytesOf at h
  generalize s.data.toList = x at h
  generalize t.data.toList = y at h
  induction x generalizing y with
  | nil => cases y with
    | nil => rfl
    | cons b y => cases h
  | cons a x ih => cases y with
    | nil => cases h
    | cons b y =>
      rw [List.map_cons, List.map_cons] at h
      obtain ⟨h1, h2⟩ := List.cons.inj h
      rw [ih y h2]
      have hab : a = b := UInt8.toNat_inj.mp (Int.ofNat.inj h1)
      rw [hab]
theorem bytes_iff {s t : ByteArray} : bytesOf s = bytesOf t ↔ s.toList = t.toList := by
  refine ⟨bytes_inj, fun h => ?_⟩
  rw [ByteArray.toList_eq, ByteArray.toList_eq] at h
  unfold bytesOf
  rw [h]
/-- Rows without a 0, each with a 0 behind. -/
theorem lex_nz : ∀ (a b x y : List Int), NoZ a → NoZ b → lexLt (a ++ 0 :: x) (b ++ 0 :: y) = if a = b then lexLt x y else lexLt a b
  | [], [], x, y, _, _ => by rw [if_pos rfl]; show (if (0 : Int) = 0 then lexLt x y else _) = _; rw [if_pos rfl]
  | [], b :: t, x, y, _, hb => by
    have h0 := hb b (by simp)
    rw [if_neg (by simp)]
    show (if (0 : Int) = b then _ else decide ((0 : Int) < b)) = true
    rw [if_neg (by omega), decide_eq_true h0]
  | a :: s, [], x, y, ha, _ => by
    have h0 := ha a (by simp)
    rw [if_neg (by simp)]
    show (if a = 0 then _ else decide (a < (0 : Int))) = false
    rw [if_neg (by omega), decide_eq_false (by omega)]
  | a :: s, b :: t, x, y, ha, hb => by
    have ih := lex_nz s t x y (fun z hz => ha z (by simp [hz])) (fun z hz => hb z (by simp [hz]))
    show (if a = b then lexLt (s ++ 0 :: x) (t ++ 0 :: y) else decide (a < b)) = _
    rw [ih]
    by_cases e : a = b
    · subst e
      rw [if_pos rfl]
      by_cases e2 : s = t
      · subst e2; rw [if_pos rfl, if_pos rfl]
      · rw [if_neg e2, if_neg (by simp [e2])]
        show _ = (if a = a then lexLt s t else _)
        rw [if_pos rfl]
    · rw [if_neg e, if_neg (by simp [e])]
      show _ = (if a = b then lexLt s t else decide (a < b))
      rw [if_neg e]
theorem app_nz : ∀ (a b x y : List Int), NoZ a → NoZ b → a ++ 0 :: x = b ++ 0 :: y → a = b ∧ x = y
  | [], [], x, y, _, _, h => by exact ⟨rfl, (List.cons.inj h).2⟩
  | [], b :: t, x, y, _, hb, h => by have h0 := hb b (by simp); have := (List.cons.inj h).1; omega
  | a :: s, [], x, y, ha, _, h => by have h0 := ha a (by simp); have := (List.cons.inj h).1; omega
  | a :: s, b :: t, x, y, ha, hb, h => by
    obtain ⟨h1, h2⟩ := List.cons.inj h
    obtain ⟨h3, h4⟩ := app_nz s t x y (fun z hz => ha z (by simp [hz])) (fun z hz => hb z (by simp [hz])) h2
    exact ⟨by rw [h1, h3], h4⟩

/-- A number of 64 bits. -/
def U (a : Int) : Prop := 0 ≤ a ∧ a < 18446744073709551616
/-- An index's key. -/
def kx (i : Int) (a b : Int) (s o : ByteArray) (d e : Int) : List Int := idxOf i s o (key8 d) (key8 e) (key8 a ++ key8 b)
theorem bind_s {α β : Type} (x : α) (f : α → Option β) : (some x).bind f = f x := rfl
theorem time_u {d : Int} (h : 0 ≤ d ∧ d ≤ 1152921504606846976) : IntKind.u64.wrap d = d := by rw [IntKind.wrap_u64]; omega

theorem prim_eq (k : Nat) (a b c : Int) (s o : ByteArray) (d e f : Int) (A : List S51) (E : List S53) (L : List S58) (hk : 9 ≤ k) : key_Primary.f k a b c s o d e f A E L = some (key8 a ++ key8 b) := by
  unfold key_Primary.f
  rw [key_eq k a hk, bind_s, key_eq k b hk, bind_s, if_pos (by rw [key8_len, key8_len]; omega)]
theorem index_eq (k : Nat) (i a b c : Int) (s o : ByteArray) (d e f : Int) (A : List S51) (E : List S53) (L : List S58) (hs : s.size ≤ 32) (ho : o.size ≤ 32) (hd : 0 ≤ d ∧ d ≤ 1152921504606846976) (he : 0 ≤ e ∧ e ≤ 1152921504606846976) (hk : 9 ≤ k) :
    key_Index.f k i a b c s o d e f A E L = some (kx i a b s o d e) := by
  unfold key_Index.f
  rw [prim_eq k _ _ _ _ _ _ _ _ _ _ _ hk, bind_s, key_eq k _ hk, bind_s, key_eq k _ hk, bind_s, time_u hd, time_u he, if_pos ?_]
  · rfl
  · have h1 : (key8 a ++ key8 b).length = 16 := rfl
    have h2 : (key8 d).length = 8 := rfl
    have h3 : (key8 e).length = 8 := rfl
    omega
end Go.Proofs.Ytenmjbcedadcbaa.Pure

namespace Go.Proofs.Ytenmjbcedadcbaa.Pure
open Go.RowKit Go.Proofs.YtenmjbcedadcbaaW.PrintWords Go.Proofs.YtenmjbcedadcbaaW.PrintLast Go.Proofs.YtenmjbcedadcbaaW.PrintMore Go.Proofs.Ytenmjbcedadcbaa.Math
open Go.Proofs.Ytenmjbcedadcbaa.PAll Go.Proofs.Ytenmjbcedadcbaa.Runes Go.Proofs.Ytenmjbcedadcbaa.NumFacts
set_option linter.unusedVariables false
set_option linter.unusedSimpArgs false

/-- What is known of a span that may be. -/
def Ok (a b : Int) (s o : ByteArray) (d e : Int) : Prop := U a ∧ U b ∧ nameB s = true ∧ nameB o = true ∧ timeB d = true ∧ timeB e = true
theorem ok_of {a b c : Int} {s o : ByteArray} {d e f : Int} (ha : U a) (hb : U b) (h : HeadP a b c s o d e f) : Ok a b s o d e := ⟨ha, hb, h.2.2.2.1, h.2.2.2.2.1, h.2.2.2.2.2.1, h.2.2.2.2.2.2.1⟩
theorem kx_len (i a b : Int) (s o : ByteArray) (d e : Int) (h : Ok a b s o d e) : (kx i a b s o d e).length ≤ 90 := by
  have hs := name_size s h.2.2.1
  have ho := name_size o h.2.2.2.1
  unfold kx idxOf
  split
  · exact (by simp only [List.length_append, List.length_nil, bytesOf_length, key8_len, List.length_singleton]; omega)
  split
  · exact (by simp only [List.length_append, List.length_nil, bytesOf_length, key8_len, List.length_singleton]; omega)
  split
  · exact (by simp only [List.length_append, List.length_nil, bytesOf_length, key8_len, List.length_singleton]; omega)
  split
  · exact (by simp only [List.length_append, List.length_nil, bytesOf_length, key8_len, List.length_singleton]; omega)
  · exact Nat.zero_le _
theorem index_ok (k : Nat) (i : Int) (a b c : Int) (s o : ByteArray) (d e f : Int) (A : List S51) (E : List S53) (L : List S58) (h1 : Ok a b s o d e) (hk : 9 ≤ k) : key_Index.f k i a b c s o d e f A E L = some (kx i a b s o d e) :=
  index_eq k i a b c s o d e f A E L (name_size s h1.2.2.1) (name_size o h1.2.2.2.1) (time_le d h1.2.2.2.2.1) (time_le e h1.2.2.2.2.2) hk
theorem kx1 (a b : Int) (s o : ByteArray) (d e : Int) : kx 1 a b s o d e = bytesOf s ++ 0 :: (key8 d ++ (key8 a ++ key8 b)) := by
  unfold kx idxOf
  rw [if_pos rfl, List.append_assoc, List.append_assoc, List.singleton_append]
theorem kx2 (a b : Int) (s o : ByteArray) (d e : Int) : kx 2 a b s o d e = bytesOf s ++ 0 :: (bytesOf o ++ 0 :: (key8 d ++ (key8 a ++ key8 b))) := by
  unfold kx idxOf
  rw [if_neg (by omega), if_pos rfl]
  simp only [List.append_assoc, List.singleton_append, List.cons_append, List.nil_append]
theorem kx3 (a b : Int) (s o : ByteArray) (d e : Int) : kx 3 a b s o d e = key8 e ++ (key8 a ++ key8 b) := by
  unfold kx idxOf
  rw [if_neg (by omega), if_neg (by omega), if_pos rfl]
theorem kx4 (a b : Int) (s o : ByteArray) (d e : Int) : kx 4 a b s o d e = key8 d ++ (key8 a ++ key8 b) := by
  unfold kx idxOf
  rw [if_neg (by omega), if_neg (by omega), if_neg (by omega), if_pos rfl]
theorem four {i : Int} (h1 : 1 ≤ i) (h4 : i ≤ 4) : i = 1 ∨ i = 2 ∨ i = 3 ∨ i = 4 := by omega
theorem u_time {d : Int} (h : timeB d = true) : U d := by
  have := time_le d h
  unfold U
  omega
end Go.Proofs.Ytenmjbcedadcbaa.Pure

namespace Go.Proofs.Ytenmjbcedadcbaa.Pure
open Go.RowKit Go.Proofs.YtenmjbcedadcbaaW.PrintWords Go.Proofs.YtenmjbcedadcbaaW.PrintLast Go.Proofs.YtenmjbcedadcbaaW.PrintMore Go.Proofs.Ytenmjbcedadcbaa.Math
open Go.Proofs.Ytenmjbcedadcbaa.PAll Go.Proofs.Ytenmjbcedadcbaa.Runes Go.Proofs.Ytenmjbcedadcbaa.NumFacts
set_option linter.unusedVariables false
set_option linter.unusedSimpArgs false

theorem lex_time (a b d a2 b2 d2 : Int) (ha : U a) (hb : U b) (hd : U d) (ha2 : U a2) (hb2 : U b2) (hd2 : U d2) :
    lexLt (key8 d ++ (key8 a ++ key8 b)) (key8 d2 ++ (key8 a2 ++ key8 b2)) = (if d = d2 then (if a = a2 then decide (b < b2) else decide (a < a2)) else decide (d < d2)) := by
  rw [lex_key8_app d d2 _ _ hd.1 hd.2 hd2.1 hd2.2, lex_key8_app a a2 _ _ ha.1 ha.2 ha2.1 ha2.2, lex_key8 b b2 hb.1 hb.2 hb2.1 hb2.2]
theorem j4_is (k : Nat) (a b c : Int) (s o : ByteArray) (d e f : Int) (A : List S51) (E : List S53) (L : List S58) (a2 b2 c2 : Int) (s2 o2 : ByteArray) (d2 e2 f2 : Int) (A2 : List S51) (E2 : List S53) (L2 : List S58) : cambiumref18_Before.j4 (k + 1) (d != d2) a b c s o d e f A E L a2 b2 c2 s2 o2 d2 e2 f2 A2 E2 L2 = some (if d = d2 then (if a = a2 then decide (b < b2) else decide (a < a2)) else decide (d < d2)) := by
  rw [cambiumref18_Before.j4]
  by_cases h : d = d2
  · rw [if_neg (by rw [bne_iff_ne]; exact fun n => n h), if_pos h]
    split <;> rfl
  · rw [if_pos (by rw [bne_iff_ne]; exact h), if_neg h]
theorem less_b (k : Nat) (s s2 : ByteArray) (h : nameB s = true) (hk : 200 < k) : cambiumref01_Less.f k (bytesOf s) (bytesOf s2) = some (lexLt (bytesOf s) (bytesOf s2)) := by
  have hs := name_size s h
  have hl := bytesOf_length s
  exact less_eq k _ _ (by omega) (by omega)
theorem before_is (k : Nat) (i : Int) (i1 : 1 ≤ i) (i4 : i ≤ 4) (a b c : Int) (s o : ByteArray) (d e f : Int) (A : List S51) (E : List S53) (L : List S58) (a2 b2 c2 : Int) (s2 o2 : ByteArray) (d2 e2 f2 : Int) (A2 : List S51) (E2 : List S53) (L2 : List S58) (h1 : Ok a b s o d e) (h2 : Ok a2 b2 s2 o2 d2 e2) (hk : 300 < k) :
    cambiumref18_Before.f k i a b c s o d e f A E L a2 b2 c2 s2 o2 d2 e2 f2 A2 E2 L2 = some (lexLt (kx i a b s o d e) (kx i a2 b2 s2 o2 d2 e2)) := by
  obtain ⟨k, rfl⟩ : ∃ j, k = j + 5 := ⟨k - 5, by omega⟩
  obtain ⟨ha, hb, hs, ho, hd, he⟩ := h1
  obtain ⟨ha2, hb2, hs2, ho2, hd2, he2⟩ := h2
  have z1 := name_size s hs
  have z2 := name_size s2 hs2
  have z3 := name_size o ho
  have z4 := name_size o2 ho2
  unfold cambiumref18_Before.f
  rcases four i1 i4 with rfl | rfl | rfl | rfl
  · rw [if_pos rfl, kx1, kx1, lex_nz _ _ _ _ (name_nz s hs) (name_nz s2 hs2), cambiumref18_Before.j0, if_pos rfl]
    by_cases e1 : s.toList = s2.toList
    · rw [if_pos e1, if_pos (bytes_iff.mpr e1), cambiumref18_Before.j1, if_neg (by omega), cambiumref18_Before.j2, if_neg Bool.false_ne_true, if_neg (by omega), cambiumref18_Before.j3, if_neg Bool.false_ne_true, if_neg (by omega), j4_is,
        lex_time a b d a2 b2 d2 ha hb (u_time hd) ha2 hb2 (u_time hd2)]
    · rw [if_neg e1, if_neg (fun h => e1 (bytes_iff.mp h)), if_pos (by omega), if_pos (by omega), less_b _ s s2 hs (by omega), bind_s]
  · rw [if_neg (by omega), kx2, kx2, lex_nz _ _ _ _ (name_nz s hs) (name_nz s2 hs2), lex_nz _ _ _ _ (name_nz o ho) (name_nz o2 ho2), cambiumref18_Before.j0, if_pos (beq_self_eq_true _)]
    by_cases e1 : s.toList = s2.toList
    · rw [if_pos e1, if_pos (bytes_iff.mpr e1), cambiumref18_Before.j1, if_pos rfl, cambiumref18_Before.j2]
      by_cases e2 : o.toList = o2.toList
      · rw [if_neg (by rw [bne_iff_ne]; exact fun n => n e2), if_neg (by omega), if_pos (bytes_iff.mpr e2), cambiumref18_Before.j3, if_neg Bool.false_ne_true, if_neg (by omega), j4_is,
          lex_time a b d a2 b2 d2 ha hb (u_time hd) ha2 hb2 (u_time hd2)]
      · rw [if_pos (by rw [bne_iff_ne]; exact e2), if_neg (fun h => e2 (bytes_iff.mp h)), if_pos (by omega), if_pos (by omega), less_b _ o o2 ho (by omega), bind_s]
    · rw [if_neg e1, if_neg (fun h => e1 (bytes_iff.mp h)), if_pos (by omega), if_pos (by omega), less_b _ s s2 hs (by omega), bind_s]
  · rw [if_neg (by omega), kx3, kx3, cambiumref18_Before.j0, if_neg (by decide), cambiumref18_Before.j1, if_neg (by omega), cambiumref18_Before.j2, if_neg Bool.false_ne_true, if_pos rfl, cambiumref18_Before.j3,
      lex_time a b e a2 b2 e2 ha hb (u_time he) ha2 hb2 (u_time he2)]
    by_cases e3 : e = e2
    · rw [if_neg (by rw [bne_iff_ne]; exact fun n => n e3), if_pos rfl, cambiumref18_Before.j4, if_neg Bool.false_ne_true, if_pos e3]
      split <;> rfl
    · rw [if_pos (by rw [bne_iff_ne]; exact e3), if_neg e3]
  · rw [if_neg (by omega), kx4, kx4, cambiumref18_Before.j0, if_neg (by decide), cambiumref18_Before.j1, if_neg (by omega), cambiumref18_Before.j2, if_neg Bool.false_ne_true, if_neg (by omega), cambiumref18_Before.j3, if_neg Bool.false_ne_true, if_neg (by omega), j4_is,
      lex_time a b d a2 b2 d2 ha hb (u_time hd) ha2 hb2 (u_time hd2)]
theorem begins_is (k : Nat) (x p : List Int) (hx : x.length ≤ 1000) (hk : x.length < k) : ∃ r, cambiumref18_Begins.f k x p = some r ∧ (r = true ↔ ∃ z, x = p ++ z) := by
  unfold cambiumref18_Begins.f
  by_cases h : (x.length : Int) ≥ (p.length : Int)
  · have hl : (x.take p.length).length = p.length := by rw [List.length_take]; omega
    rw [if_pos h, if_pos (by omega), if_pos (by omega), Int.toNat_natCast, Same.same_eq k _ _ (by omega) (by omega), bind_s]
    refine ⟨_, rfl, ?_⟩
    rw [decide_eq_true_eq]
    refine ⟨fun e => ⟨x.drop p.length, ?_⟩, fun ⟨z, e⟩ => ?_⟩
    · have := List.take_append_drop p.length x
      rw [e] at this
      exact this.symm
    · rw [e, List.take_left]
  · rw [if_neg h]
    refine ⟨_, rfl, ⟨fun e => (by cases e), fun ⟨z, e⟩ => ?_⟩⟩
    have := congrArg List.length e
    rw [List.length_append] at this
    omega
theorem step_is (k : Nat) (i : Int) (i1 : 1 ≤ i) (i4 : i ≤ 4) (a b c : Int) (s o : ByteArray) (d e f : Int) (A : List S51) (E : List S53) (L : List S58) (a2 b2 c2 : Int) (s2 o2 : ByteArray) (d2 e2 f2 : Int) (A2 : List S51) (E2 : List S53) (L2 : List S58) (h1 : Ok a b s o d e) (h2 : Ok a2 b2 s2 o2 d2 e2) (hk : 400 < k) :
    cambiumlaw18_KeyOrder.l0 (k + 1) i a b c s o d e f A E L a2 b2 c2 s2 o2 d2 e2 f2 A2 E2 L2 = cambiumlaw18_KeyOrder.l0 k (i + 1) a b c s o d e f A E L a2 b2 c2 s2 o2 d2 e2 f2 A2 E2 L2 := by
  have w1 := kx_len i a b s o d e h1
  have w2 := kx_len i a2 b2 s2 o2 d2 e2 h2
  have hw : wrap64 (i + 1) = i + 1 := by unfold wrap64; omega
  rw [cambiumlaw18_KeyOrder.l0, if_pos i4, index_ok k i a b c s o d e f A E L h1 (by omega), bind_s, index_ok k i a2 b2 c2 s2 o2 d2 e2 f2 A2 E2 L2 h2 (by omega), bind_s, less_eq k _ _ (by omega) (by omega), bind_s, before_is k i i1 i4 a b c s o d e f A E L a2 b2 c2 s2 o2 d2 e2 f2 A2 E2 L2 h1 h2 (by omega), bind_s, bne_self_eq_false, if_neg Bool.false_ne_true,
    less_eq k _ _ (by omega) (by omega), bind_s, before_is k i i1 i4 a2 b2 c2 s2 o2 d2 e2 f2 A2 E2 L2 a b c s o d e f A E L h2 h1 (by omega), bind_s, bne_self_eq_false, if_neg Bool.false_ne_true, hw]
theorem last_is (k : Nat) (a b c : Int) (s o : ByteArray) (d e f : Int) (A : List S51) (E : List S53) (L : List S58) (a2 b2 c2 : Int) (s2 o2 : ByteArray) (d2 e2 f2 : Int) (A2 : List S51) (E2 : List S53) (L2 : List S58) (h1 : Ok a b s o d e) (h2 : Ok a2 b2 s2 o2 d2 e2) (hk : 400 < k) :
    cambiumlaw18_KeyOrder.l0 (k + 1) 5 a b c s o d e f A E L a2 b2 c2 s2 o2 d2 e2 f2 A2 E2 L2 = some true := by
  have w1 := kx_len 1 a b s o d e h1
  have w2 := kx_len 2 a b s o d e h1
  have hs2 := name_size s2 h2.2.2.1
  have ho2 := name_size o2 h2.2.2.2.1
  have n1 := name_nz s h1.2.2.1
  have n2 := name_nz o h1.2.2.2.1
  have m1 := name_nz s2 h2.2.2.1
  have m2 := name_nz o2 h2.2.2.2.1
  obtain ⟨r, er, ir⟩ := begins_is k (kx 1 a b s o d e) (bytesOf s2 ++ [0]) (by omega) (by omega)
  obtain ⟨q, eq, iq⟩ := begins_is k (kx 2 a b s o d e) (bytesOf s2 ++ [0] ++ (bytesOf o2 ++ [0])) (by omega) (by omega)
  have hv : key_Service.f s2 = some (bytesOf s2 ++ [0]) := by unfold key_Service.f; rw [if_pos (by omega)]
  have ho : key_Operation.f s2 o2 = some (bytesOf s2 ++ [0] ++ (bytesOf o2 ++ [0])) := by unfold key_Operation.f; rw [if_pos (by omega)]
  have hr : r = true ↔ s.toList = s2.toList := by
    rw [ir, kx1]
    refine ⟨fun ⟨z, e⟩ => ?_, fun e => ⟨key8 d ++ (key8 a ++ key8 b), ?_⟩⟩
    · rw [List.append_assoc, List.singleton_append] at e
      exact bytes_inj (app_nz _ _ _ _ n1 m1 e).1
    · rw [List.append_assoc, List.singleton_append, bytes_iff.mpr e]
  have hq : q = true ↔ s.toList = s2.toList ∧ o.toList = o2.toList := by
    rw [iq, kx2]
    refine ⟨fun ⟨z, e⟩ => ?_, fun e => ⟨key8 d ++ (key8 a ++ key8 b), ?_⟩⟩
    · simp only [List.append_assoc, List.singleton_append, List.cons_append, List.nil_append] at e
      obtain ⟨e1, e2⟩ := app_nz _ _ _ _ n1 m1 e
      exact ⟨bytes_inj e1, bytes_inj (app_nz _ _ _ _ n2 m2 e2).1⟩
    · simp only [List.append_assoc, List.singleton_append, List.cons_append, List.nil_append]
      rw [bytes_iff.mpr e.1, bytes_iff.mpr e.2]
  have tr : (r == (s.toList == s2.toList)) = true := by
    have : r = (s.toList == s2.toList) := by rw [Bool.eq_iff_iff, hr, beq_iff_eq]
    rw [this, beq_self_eq_true]
  rw [cambiumlaw18_KeyOrder.l0, if_neg (by omega), index_ok k 1 a b c s o d e f A E L h1 (by omega), bind_s, hv, bind_s, er, bind_s, if_pos tr, index_ok k 2 a b c s o d e f A E L h1 (by omega), bind_s, ho, bind_s, eq, bind_s]
  by_cases e1 : s.toList = s2.toList
  · rw [if_pos e1]
    have : q = (o.toList == o2.toList) := by rw [Bool.eq_iff_iff, hq, beq_iff_eq]; exact ⟨fun h => h.2, fun h => ⟨e1, h⟩⟩
    rw [this, beq_self_eq_true]
  · rw [if_neg e1]
    have : q = false := by cases q with
      | false => rfl
      | true => exact absurd (hq.mp rfl).1 e1
    rw [this]
    rfl
theorem KeyOrder (a b c : Int) (s o : ByteArray) (d e f : Int) (A : List S51) (E : List S53) (L : List S58) (a2 b2 c2 : Int) (s2 o2 : ByteArray) (d2 e2 f2 : Int) (A2 : List S51) (E2 : List S53) (L2 : List S58) (ha : U a) (hb : U b) (ha2 : U a2) (hb2 : U b2) (hA : A.length ≤ 140737488351232) (hE : E.length ≤ 140737488351232) (hL : L.length ≤ 140737488351232) (hA2 : A2.length ≤ 140737488351232) (hE2 : E2.length ≤ 140737488351232) (hL2 : L2.length ≤ 140737488351232) :
    ∃ k, cambiumlaw18_KeyOrder.f k a b c s o d e f A E L a2 b2 c2 s2 o2 d2 e2 f2 A2 E2 L2 = some true := by
  suffices hall : ∀ k, A.length + E.length + L.length + A2.length + E2.length + L2.length + 2500 ≤ k → cambiumlaw18_KeyOrder.f (k + 6) a b c s o d e f A E L a2 b2 c2 s2 o2 d2 e2 f2 A2 E2 L2 = some true from ⟨_, hall _ (Nat.le_refl _)⟩
  intro k hk
  have ht : cambiumlaw18_KeyOrder.j0 (k + 6) true a b c s o d e f A E L a2 b2 c2 s2 o2 d2 e2 f2 A2 E2 L2 = some true := by rw [cambiumlaw18_KeyOrder.j0, if_pos rfl]
  obtain ⟨r1, q1⟩ := small_some (k + 6) a b c s o d e f A E L hA hE (by omega)
  obtain ⟨r2, q2⟩ := small_some (k + 6) a2 b2 c2 s2 o2 d2 e2 f2 A2 E2 L2 hA2 hE2 (by omega)
  obtain ⟨r3, q3, i3⟩ := ref_may (k + 6) a b c s o d e f A E L hE hL (by omega)
  obtain ⟨r4, q4, i4⟩ := ref_may (k + 6) a2 b2 c2 s2 o2 d2 e2 f2 A2 E2 L2 hE2 hL2 (by omega)
  have haw : cambiumlaw18_awake.f = some true := rfl
  unfold cambiumlaw18_KeyOrder.f
  rw [haw, bind_s, if_pos rfl, q1, bind_s]
  cases r1 with
  | false => rw [if_neg Bool.false_ne_true, ht]
  | true =>
  rw [if_pos rfl, q2, bind_s]
  cases r2 with
  | false => rw [if_neg Bool.false_ne_true, ht]
  | true =>
  rw [if_pos rfl, q3, bind_s]
  cases r3 with
  | false => rw [if_neg Bool.false_ne_true, ht]
  | true =>
  rw [if_pos rfl, q4, bind_s]
  cases r4 with
  | false => exact ht
  | true =>
  have h1 := ok_of ha hb (i3.mp rfl).1
  have h2 := ok_of ha2 hb2 (i4.mp rfl).1
  rw [show (!true) = false from rfl, cambiumlaw18_KeyOrder.j0, if_neg Bool.false_ne_true, step_is (k + 4) 1 (by omega) (by omega) a b c s o d e f A E L a2 b2 c2 s2 o2 d2 e2 f2 A2 E2 L2 h1 h2 (by omega), show (1 : Int) + 1 = 2 from rfl, step_is (k + 3) 2 (by omega) (by omega) a b c s o d e f A E L a2 b2 c2 s2 o2 d2 e2 f2 A2 E2 L2 h1 h2 (by omega), show (2 : Int) + 1 = 3 from rfl,
    step_is (k + 2) 3 (by omega) (by omega) a b c s o d e f A E L a2 b2 c2 s2 o2 d2 e2 f2 A2 E2 L2 h1 h2 (by omega), show (3 : Int) + 1 = 4 from rfl, step_is (k + 1) 4 (by omega) (by omega) a b c s o d e f A E L a2 b2 c2 s2 o2 d2 e2 f2 A2 E2 L2 h1 h2 (by omega), show (4 : Int) + 1 = 5 from rfl]
  exact last_is k a b c s o d e f A E L a2 b2 c2 s2 o2 d2 e2 f2 A2 E2 L2 h1 h2 (by omega)
end Go.Proofs.Ytenmjbcedadcbaa.Pure

namespace Go.Proofs.Ytenmjbcedadcbaa.Walk
open Go.RowKit Go.Proofs.YtenmjbcedadcbaaW.PrintWords Go.Proofs.YtenmjbcedadcbaaW.PrintLast Go.Proofs.YtenmjbcedadcbaaW.PrintMore Go.Proofs.Ytenmjbcedadcbaa.PAll Go.Proofs.Ytenmjbcedadcbaa.Open
set_option linter.unusedVariables false
theorem u_of_wf {a : Int} (h : (Lit.int .u64 a).wf = true) : Pure.U a := by
  simp [Lit.wf, IntKind.min, IntKind.max, IntKind.bits, IntKind.signed] at h
  unfold Pure.U
  omega
theorem KeyOrder (W : World) (x0 : S34) (cs0 : Array Value) (hk0 : k34.K W x0 cs0.toList) (hg0 : G34 x0) (x1 : S34) (cs1 : Array Value) (hk1 : k34.K W x1 cs1.toList) (hg1 : G34 x1) :
    Calls Try.prog 4 #[.agg cs0, .agg cs1] W fun e w' => e = .returned (.bool true) ∧ Below W.heap.size W w' := by
  obtain ⟨A8, c8, A9, c9, A10, c10, e0, l8, C8, l9, C9, l10, C10⟩ := k34_open hk0
  obtain ⟨B8, d8, B9, d9, B10, d10, e1, m8, D8, m9, D9, m10, D10⟩ := k34_open hk1
  obtain ⟨g0, g1, _, _, _, _, _, _, ⟨_, g8⟩, ⟨_, g9⟩, ⟨_, g10⟩⟩ := hg0
  obtain ⟨h0, h1, _, _, _, _, _, _, ⟨_, h8⟩, ⟨_, h9⟩, ⟨_, h10⟩⟩ := hg1
  obtain rfl := (Array.toArray_toList (xs := cs0)).symm.trans (congrArg List.toArray e0)
  obtain rfl := (Array.toArray_toList (xs := cs1)).symm.trans (congrArg List.toArray e1)
  obtain ⟨k, h⟩ := Pure.KeyOrder x0.f0 x0.f1 x0.f2 x0.f3 x0.f4 x0.f5 x0.f6 x0.f7 x0.f8 x0.f9 x0.f10 x1.f0 x1.f1 x1.f2 x1.f3 x1.f4 x1.f5 x1.f6 x1.f7 x1.f8 x1.f9 x1.f10 (u_of_wf g0) (u_of_wf g1) (u_of_wf h0) (u_of_wf h1) (by omega) (by omega) (by omega) (by omega) (by omega) (by omega)
  exact cambiumlaw18_KeyOrder.calls k _ _ _ _ _ _ _ _ _ _ _ _ _ _ _ _ _ _ _ _ _ _ _ _ _ _ _ _ _ _ _ _ _ _ true W C8 l8 C9 l9 C10 l10 D8 m8 D9 m9 D10 m10 h
end Go.Proofs.Ytenmjbcedadcbaa.Walk

/- Words, byte by byte, against the words rune by rune. -/
import Derived.Test.YtphimckceegiiaaDoorPTxtx7
import Derived.Test.YtphimckceegiiaaDoorPTxtx3
import Derived.Test.YtphimckceegiiaaDoorTells
import Derived.Test.YtphimckceegiiaaDoorTextWords
import Derived.Test.YtphimckceegiiaaDoorPureTextRunes
import Derived.Lib.Strings
namespace Go.Proofs.YtphimckceegiiaaDoor.Tells
open Go.RowKit Go.Proofs.YtphimckceegiiaaDoorW.PrintWords Go.Proofs.YtphimckceegiiaaDoorW.PrintLast Go.Proofs.YtphimckceegiiaaDoorW.PrintMore Go.Proofs.YtphimckceegiiaaDoor.Math
open Go.Proofs.YtphimckceegiiaaDoor.PTxt Go.Proofs.YtphimckceegiiaaDoor.Runes Go.Proofs.YtphimckceegiiaaDoor.Text Go.Proofs.YtphimckceegiiaaDoor.Pure
set_option linter.unusedVariables false
set_option linter.unusedSimpArgs false
/-- Of a rune's bytes. -/
theorem decN_high (n c0 c1 c2 c3 : Nat) (h0 : 128 ≤ c0) : 128 ≤ (Lib.decodeN n c0 c1 c2 c3).1 ∧ (Lib.decodeN n c0 c1 c2 c3).2 ≤ 4 ∧ (1 < (Lib.decodeN n c0 c1 c2 c3).2 → 128 ≤ c1) ∧
    (2 < (Lib.decodeN n c0 c1 c2 c3).2 → 128 ≤ c2) ∧ (3 < (Lib.decodeN n c0 c1 c2 c3).2 → 128 ≤ c3) := by
  unfold Lib.decodeN
  split
  · omega
  split
  · split <;> (simp only; omega)
  split
  · split <;> (simp only; omega)
  split
  · split <;> (simp only; omega)
  · simp only; omega
theorem blankN_high {x : Nat} (h : 33 ≤ x) : blankN x = false := by
  unfold blankN
  simp only [Bool.or_eq_false_iff, beq_eq_false_iff_ne]
  omega
/-- A blank is one byte, else none of them is a blank. -/
theorem dec_blank (s : ByteArray) (i : Nat) (h : i < s.size) :
    (blankN (rn s i) = true → wd s i = 1 ∧ nb s i = rn s i) ∧ (blankN (rn s i) = false → ∀ j, j < wd s i → blankN (nb s (i + j)) = false) := by
  have hd : Utf8.decode s i = Lib.decodeN (s.size - i) (nb s i) (nb s (i + 1)) (nb s (i + 2)) (nb s (i + 3)) := Lib.decode_at s i
  unfold wd rn
  rw [hd]
  by_cases h0 : nb s i < 128
  · have e : Lib.decodeN (s.size - i) (nb s i) (nb s (i + 1)) (nb s (i + 2)) (nb s (i + 3)) = (nb s i, 1) := by
      unfold Lib.decodeN
      rw [if_pos h0]
    rw [e]
    refine ⟨fun _ => ⟨rfl, rfl⟩, fun hbf j hj => ?_⟩
    have hj0 : j = 0 := Nat.lt_one_iff.mp hj
    subst hj0
    exact hbf
  · obtain ⟨h1, h4, h5, h6, h7⟩ := decN_high (s.size - i) (nb s i) (nb s (i + 1)) (nb s (i + 2)) (nb s (i + 3)) (by omega)
    generalize Lib.decodeN (s.size - i) (nb s i) (nb s (i + 1)) (nb s (i + 2)) (nb s (i + 3)) = d at *
    refine ⟨fun hb => ?_, fun _ j hj => ?_⟩
    · rw [blankN_high (by omega)] at hb
      cases hb
    · apply blankN_high
      have hj' : j = 0 ∨ j = 1 ∨ j = 2 ∨ j = 3 := by omega
      rcases hj' with rfl | rfl | rfl | rfl
      · rw [Nat.add_zero]; omega
      · have := h5 (by omega); omega
      · have := h6 (by omega); omega
      · have := h7 (by omega); omega
theorem bt_is (s : ByteArray) (i : Nat) (h : i < s.size) : bt s (i : Int) = (nb s i : Int) := by
  unfold bt nb
  rw [Int.toNat_natCast, dif_pos h]
  have hg : s.get! i = s.data[i]! := rfl
  rw [hg, getElem!_pos s.data i h]
  rfl
theorem blankB_nat (n : Nat) : blankB (n : Int) = blankN n := by
  unfold blankB blankN
  rw [Bool.eq_iff_iff]
  simp only [decide_eq_true_eq, Bool.or_eq_true, beq_iff_eq]
  omega
theorem ext_join (s : ByteArray) (b i : Nat) (hb : b ≤ i) (hi : i < s.size) : s.extract b i ++ s.extract i (i + 1) = s.extract b (i + 1) := by
  ext1
  rw [ByteArray.data_append, ByteArray.data_extract, ByteArray.data_extract, ByteArray.data_extract, Array.extract_append_extract]
  congr 1 <;> omega
theorem w_succ (i : Nat) (h : i ≤ 1000000) : wrap64 ((i : Int) + 1) = ((i + 1 : Nat) : Int) := by unfold wrap64; omega
theorem w_nb (s : ByteArray) (i : Nat) : wrap64 (nb s i : Int) = (nb s i : Int) := by have := nb_lt s i; unfold wrap64; omega
/-- The bytes of a rune that is no blank. -/
theorem words_over (s : ByteArray) (hs : s.size ≤ 1000000) (acc : List ByteArray) (b : Nat) : ∀ (m k i : Nat), b ≤ i → i + m ≤ s.size → (∀ j, j < m → blankN (nb s (i + j)) = false) →
    cambiumref02_Words.l0 (k + m) s acc (s.extract b i) (i : Int) = cambiumref02_Words.l0 k s acc (s.extract b (i + m)) ((i + m : Nat) : Int) := by
  intro m
  induction m with
  | zero => intro k i _ _ _; simp only [Nat.add_zero]
  | succ m ih =>
    intro k i hb hm hbl
    have h0 := hbl 0 (by omega)
    rw [Nat.add_zero] at h0
    have hz : (s.extract b i).size + (s.extract i (i + 1)).size ≤ 9223372036854775807 := by rw [ByteArray.size_extract, ByteArray.size_extract]; omega
    have e : cambiumref02_Words.l0 (k + m + 1) s acc (s.extract b i) (i : Int) = cambiumref02_Words.l0 (k + m) s acc (s.extract b (i + 1)) ((i + 1 : Nat) : Int) := by
      rw [cambiumref02_Words.l0, if_pos (by omega), if_pos (by omega), bt_is s i (by omega), w_nb s i, blankR, blankB_nat, h0]
      rw [Option.bind_some, if_neg Bool.false_ne_true, w_succ i (by omega), if_pos (by omega), if_pos (by omega), Int.toNat_natCast, Int.toNat_natCast, if_pos hz, ext_join s b i hb (by omega)]
    rw [show k + (m + 1) = k + m + 1 by omega, e, ih k (i + 1) (by omega) (by omega) (fun j hj => by have := hbl (j + 1) (by omega); rwa [show i + (j + 1) = i + 1 + j by omega] at this)]
    rw [show i + 1 + m = i + (m + 1) by omega]
theorem ext_nil (s : ByteArray) (b i : Nat) (hi : i ≤ s.size) : (s.extract b i).toList = ([] : List UInt8) ↔ ¬ b < i := by
  rw [ByteArray.toList_eq]
  constructor
  · intro h hlt
    have h2 := congrArg List.length h
    rw [Array.length_toList] at h2
    have h3 : (s.extract b i).size = (s.extract b i).data.size := rfl
    rw [← h3, ByteArray.size_extract] at h2
    simp only [List.length_nil] at h2
    omega
  · intro h
    apply List.eq_nil_of_length_eq_zero
    rw [Array.length_toList]
    show (s.extract b i).size = 0
    rw [ByteArray.size_extract]
    omega
theorem ext_empty (s : ByteArray) (i : Nat) : (⟨#[]⟩ : ByteArray) = s.extract i i := by
  ext1
  rw [ByteArray.data_extract]
  apply Array.ext'
  rw [Array.toList_extract]
  simp [List.extract_eq_take_drop]
theorem words_l0 (s : ByteArray) (hs : s.size ≤ 1000000) : ∀ (d i k : Nat) (acc : List ByteArray) (b : Nat), s.size - i ≤ d → b ≤ i → i ≤ s.size → acc.length ≤ i → s.size - i < k →
    cambiumref02_Words.l0 k s acc (s.extract b i) (i : Int) = some (acc ++ wordsF s (from_ s i) b) := by
  have hend : ∀ (k i : Nat) (acc : List ByteArray) (b : Nat), ¬ i < s.size → i ≤ s.size → acc.length ≤ i →
      cambiumref02_Words.l0 (k + 1) s acc (s.extract b i) (i : Int) = some (acc ++ wordsF s (from_ s i) b) := by
    intro k i acc b h1 h2 h3
    have hi : i = s.size := by omega
    subst hi
    rw [cambiumref02_Words.l0, if_neg (by omega), from_ge h1, wordsF]
    by_cases hb : b < s.size
    · rw [if_neg (fun h => (ext_nil s b s.size (Nat.le_refl _)).mp h hb), if_pos (by omega), if_pos hb]
    · rw [if_pos ((ext_nil s b s.size (Nat.le_refl _)).mpr hb), if_neg hb, List.append_nil]
  intro d
  induction d with
  | zero =>
    intro i k acc b h hb hi ha hk
    obtain ⟨k, rfl⟩ : ∃ j, k = j + 1 := ⟨k - 1, by omega⟩
    exact hend k i acc b (by omega) hi ha
  | succ d ih =>
    intro i k acc b h hb hi ha hk
    by_cases hlt : i < s.size
    · have hd := dec_bounds s i hlt
      obtain ⟨hx, hy⟩ := dec_blank s i hlt
      cases hbl : blankN (rn s i) with
      | true =>
        obtain ⟨hw1, hn⟩ := hx hbl
        obtain ⟨k, rfl⟩ : ∃ j, k = j + 1 := ⟨k - 1, by omega⟩
        rw [cambiumref02_Words.l0, if_pos (by omega), if_pos (by omega), bt_is s i hlt, w_nb s i, blankR, blankB_nat, hn, hbl, w_succ i (by omega), from_lt hlt, hw1, wordsF, if_pos hbl]
        rw [Option.bind_some, if_pos rfl, ext_empty s (i + 1)]
        by_cases hbi : b < i
        · rw [if_neg (fun h => (ext_nil s b i hi).mp h hbi), if_pos (by omega), if_pos hbi, ih (i + 1) k (acc ++ [s.extract b i]) (i + 1) (by omega) (by omega) (by omega) (by rw [List.length_append, List.length_singleton]; omega) (by omega), List.append_assoc]
          rfl
        · rw [if_pos ((ext_nil s b i hi).mpr hbi), if_neg hbi]
          exact ih (i + 1) k acc (i + 1) (by omega) (by omega) (by omega) (by omega) (by omega)
      | false =>
        obtain ⟨j, rfl⟩ : ∃ j, k = j + wd s i := ⟨k - wd s i, by omega⟩
        rw [words_over s hs acc b (wd s i) j i hb (by omega) (hy hbl), from_lt hlt, wordsF, if_neg (by rw [hbl]; simp)]
        exact ih (i + wd s i) j acc b (by omega) (by omega) (by omega) (by omega) (by omega)
    · obtain ⟨k, rfl⟩ : ∃ j, k = j + 1 := ⟨k - 1, by omega⟩
      exact hend k i acc b hlt hi ha
theorem words_eq (k : Nat) (s : ByteArray) (hs : s.size ≤ 1000000) (hk : s.size < k) : cambiumref02_Words.f k s = some (wordsF s (from_ s 0) 0) := by
  unfold cambiumref02_Words.f
  rw [ext_empty s 0]
  have h := words_l0 s hs s.size 0 k [] 0 (by omega) (by omega) (by omega) (by simp) (by omega)
  rw [List.nil_append] at h
  exact h
theorem words_len (s : ByteArray) : ∀ (l : List Nat) (b : Nat), (wordsF s l b).length ≤ l.length + 1 := by
  intro l
  induction l with
  | nil => intro b; rw [wordsF]; split <;> simp
  | cons i t ih =>
    intro b
    rw [wordsF, List.length_cons]
    split
    · split
      · rw [List.length_cons]; have := ih (i + 1); omega
      · have := ih (i + 1); omega
    · have := ih b; omega
end Go.Proofs.YtphimckceegiiaaDoor.Tells
